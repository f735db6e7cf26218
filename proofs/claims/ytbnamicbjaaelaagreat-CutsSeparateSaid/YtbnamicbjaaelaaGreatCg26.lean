/- Texts of the proof. -/
import Derived.Test.YtbnamicbjaaelaaGreatCg23
import Derived.Test.YtbnamicbjaaelaaGreatCg25
set_option linter.all false
set_option maxHeartbeats 4000000
set_option maxRecDepth 100000
namespace Go.Proofs.YtbnamicbjaaelaaGreat
open Go.Proofs.Tryz
open Go.RowKit
theorem Jx {l:List Int} {u:Int} (h:iY l=true) (hu: ∀z∈l,z<u):iY (l++ [u])=true:=by
 rw [lg]at h⊢;intro j h1 h2;rw [List.length_append]at h2;simp only [List.length_cons,List.length_nil]at h2;have e1:gw (l++ [u]) (j-1)=gw l (j-1):=by unfold gw;rw [List.getElem?_append_left ae]
 by_cases q:j<l.length
 .have e2:gw (l++ [u]) j=gw l j:=by unfold gw;rw [List.getElem?_append_left q]
  rw [e1,e2];exact h j h1 q
 .have e2:gw (l++ [u]) j=u:=by unfold gw;rw [List.getElem?_append_right ae,show j-l.length=0 by omega];rfl
  have e3:gw l (j-1)=l[j-1]'ae:=by unfold gw;rw [List.getElem?_eq_getElem ae];rfl
  rw [e1,e2,e3];exact hu _ (List.getElem_mem _)
structure j6 (l:List cj) (u:Nat):Prop where
 move: ∀m∈l,(0<=m.unit/\m.unit<u)/\(0<=m.up/\m.up<8)/\(0<=m.down/\m.down<8)
 L1:iY (l.map cj.unit)=true
 len:l.length<=u
theorem j6.next {l:List cj} {u:Nat} (h:j6 l u):j6 l (u+1):=⟨λm hm=>by have:=h.move m hm;refine ⟨⟨this.1.1,ae⟩,this.2⟩,h.L1,bA h.len⟩
theorem j6.snoc {l:List cj} {u:Nat} {up dn:Int} (h:j6 l u) (h1:0<=up/\up<8) (h2:0<=dn/\dn<8):j6 (l++ [⟨(u:Int),up,dn⟩]) (u+1):=by
 refine ⟨?_,?_,by have:=h.len;rw [List.length_append];simp only [List.length_cons,List.length_nil];omega⟩
 .intro m hm
  rcases List.mem_append.1 hm with e|e
  .have:=h.move m e;refine ⟨⟨this.1.1,ae⟩,this.2⟩
  .rw [List.mem_singleton]at e;subst e;exact ⟨⟨by simp only;omega,by simp only;omega⟩,h1,h2⟩
 .rw [List.map_append]
  refine Jx h.L1 ?_;intro z hz;obtain ⟨m,hm,rfl⟩:=List.mem_map.1 hz;exact (h.move m hm).1.2
structure Ag (x:cJ) (i nl nu:Nat):Prop where
 name:x.name=aW 111 i
 lines:x.lines.length=1\/x.lines.length=2
 line: ∀z∈x.lines,0<=z/\z<nl
 L1:iY x.lines=true
 moves:j6 x.moves nu
 ah3:x.cd=false->x.moves= []
def xP:cJ:=⟨{data:= #[]},none,0,[],false,none,0,[]⟩
def ja (l:List cj):List (List Value):=l.map cj.cells
theorem ze (l:List cj) (g:cj):ja (l++ [g])=ja l++ [[i64 g.unit,i64 g.up,i64 g.down]]:=by simp [ja,cj.cells]
theorem kA (l:List cj):(ja l).length=l.length:=by simp [ja]
theorem Tryz.info_move:(Tryz.prog.info? 112).map (λi=>(i.zero,i.size,i.bytes))=some (some (.agg #[i64 0,i64 0,i64 0]),3,24):=ax
theorem jP {w w':World} {base:Nat} {v:Value} (hle:base<=w.heap.size) (hown: ∀k,v.ownBlock=some k->base<=k) (he: ∀a0,Ext a0 w->a0.heap.size<=base->Ext a0 w') (hb: ∀k,k<w.heap.size->some k≠v.ownBlock->w'.heap[k]?=w.heap[k]?) (hz:w.heap.size<=w'.heap.size): ∃K,base<=K/\(K=w.heap.size\/v.ownBlock=some K)/\aB K w w':=by
 have h0:Ext {w with heap:= #[]} w:=⟨⟨rfl,rfl,rfl,aZ,λk hk=>absurd hk (Nat.not_lt_zero _)⟩,bY⟩;have h1:=he _ h0 aZ;cases q:v.ownBlock with
 |none=>exact ⟨w.heap.size,hle,.inl rfl,h1.below.os,h1.below.tape,h1.below.output,h1.drawn,hz,λk hk _=>hb k hk (by rw [q];simp)⟩
 |some g=>exact ⟨g,hown g q,.inr rfl,h1.below.os,h1.below.tape,h1.below.output,h1.drawn,hz,λk hk hne=>hb k hk (by rw [q];intro e;cases e;exact hne rfl)⟩
structure OW (V:World) (T R X:Nat) (a:Option Addr) (c:Nat) (l:List Int) (x:cJ) (W:World):Prop where
 tape:bO W T a c l
 o:aT W X 75 x.cells
 res:aT W R 75 xP.cells
 ext:aB T V W
 lines:aS W x.la x.lc x.lines
 lf: ∀p,x.la=some p->V.heap.size<=p.block/\p.block≠X/\p.block≠R/\p.block≠T/\p.block<W.heap.size
 pos:X≠T/\X≠R/\R≠T/\V.heap.size<=X/\V.heap.size<=R/\T<V.heap.size
theorem OW.next {V W W':World} {T R X:Nat} {a:Option Addr} {c:Nat} {l:List Int} {x:cJ} (h:OW V T R X a c l x W) (hT:bO W' T a c l) (hx:aB T W W'):OW V T R X a c l x W':=
 ⟨hT,h.o.but hx h.pos.1,h.res.but hx h.pos.2.2.1,h.ext.trans hx,h.lines.eH hx (λp hp=>(h.lf p hp).2.2.2.1),λp hp=>by have:=h.lf p hp;have:=hx.size;refine ⟨?_,?_,?_,?_,?_⟩<;>omega,h.pos⟩
theorem OW.grow {V W W':World} {T R X:Nat} {a:Option Addr} {c:Nat} {l:List Int} {x:cJ} (h:OW V T R X a c l x W) (hx:Ext W W'):OW V T R X a c l x W':=h.next (h.tape.ext hx) (hx.but T)
theorem OW.but {V W W':World} {T R X K:Nat} {a:Option Addr} {c:Nat} {l:List Int} {x:cJ} (h:OW V T R X a c l x W) (hx:aB K W W') (hV:V.heap.size<=K) (hX:X≠K) (hR:R≠K) (hl: ∀p,x.la=some p->p.block≠K):OW V T R X a c l x W':=
 ⟨h.tape.but hx (bA h.pos.2.2.2.2.2),h.o.but hx hX,h.res.but hx hR,h.ext.over hx hV,h.lines.eH hx hl,λp hp=>by have:=h.lf p hp;have:=hx.size;refine ⟨?_,?_,?_,?_,?_⟩<;>omega,h.pos⟩
theorem OW.set {V W:World} {T R X:Nat} {a:Option Addr} {c:Nat} {l:List Int} {x:cJ} (h:OW V T R X a c l x W) (j:Nat) (v:Value) (x':cJ) (hc:x'.cells=x.cells.set j v) (hs:aS W x'.la x'.lc x'.lines) (hf: ∀p,x'.la=some p->V.heap.size<=p.block/\p.block≠X/\p.block≠R/\p.block≠T/\p.block<W.heap.size):OW V T R X a c l x' (W.setCell ⟨X,j,none⟩ v):=by
 have hx:=((aB.refl X W).ez (o:=j) (v:=v));exact ⟨h.tape.but hx h.pos.1.symm,by rw [hc];exact h.o.set j v,h.res.but hx h.pos.2.1.symm,h.ext.setCell (p:=⟨X,j,none⟩) h.pos.2.2.2.1 _,hs.eH hx (λp hp=>(hf p hp).2.1),λp hp=>by have:=hf p hp;have:=hx.size;refine ⟨?_,?_,?_,?_,?_⟩<;>omega,h.pos⟩
theorem OW.Wl {V WB w5:World} {T R X BL:Nat} {a:Option Addr} {c:Nat} {l:List Int} {nm:ByteArray} {z0 z1:Int} {v1:Value} (h:OW V T R X a c l (⟨nm,some ⟨BL,0,none⟩,1,[z0],false,none,0,[]⟩:cJ) WB) (hX:BL≠X) (hL:BL<WB.heap.size) (hz0:b_ z0) (hz1:b_ z1)
 (ho:w5.ownsRow BL 3 1 v1 2 [i64 z0,i64 z1]) (he: ∀a0,Ext a0 (WB.alloc (.cells #[i64 z1] 3))->a0.heap.size<=BL->Ext a0 w5) (hb: ∀k,k<(WB.alloc (.cells #[i64 z1] 3)).heap.size->some k≠Value.ownBlock (.slice (some ⟨BL,0,none⟩) 1 1)->w5.heap[k]?=(WB.alloc (.cells #[i64 z1] 3)).heap[k]?) (hz:(WB.alloc (.cells #[i64 z1] 3)).heap.size<=w5.heap.size)
 (hv:v1.ownBlock=Value.ownBlock (.slice (some ⟨BL,0,none⟩) 1 1)\/ ∃g,v1.ownBlock=some g/\(WB.alloc (.cells #[i64 z1] 3)).heap.size<=g):
 ∃a2 k2,v1= .slice a2 2 k2/\w5.cell? ⟨X,1,none⟩=some (.slice (some ⟨BL,0,none⟩) 1 1)/\w5.frozen? ⟨X,1,none⟩=false/\OW V T R X a c l (⟨nm,a2,k2,[z0,z1],false,none,0,[]⟩:cJ) (w5.setCell ⟨X,1,none⟩ (.slice a2 2 k2)):=by
 have Co:(WB.alloc (.cells #[i64 z1] 3)).heap.size=WB.heap.size+1:=aG;have hl:=h.lf _ rfl;simp only at hl;obtain ⟨K,Sj,Mh,hKx⟩:=jP (base:=BL) (v:= .slice (some ⟨BL,0,none⟩) 1 1) (by rw [Co];omega) (λk e=>by cases e;exact bY) he hb hz
 have Zk:X≠K/\R≠K/\V.heap.size<=K/\T≠K:=by
  have h1:=h.o.lt;have h2:=h.res.lt;have h4:=h.pos
  rcases Mh with e|e
  .refine ⟨?_,?_,?_,?_⟩<;>omega
  .cases e;exact ⟨hl.2.1.symm,hl.2.2.1.symm,hl.1,hl.2.2.2.1.symm⟩
 have hO5:aL w5 BL 3 1 v1 (dY [z0,z1]):=⟨ho,λr hr=>by simp [dY]at hr;rcases hr with rfl|rfl<;>rfl⟩;obtain ⟨a2,k2,rfl,Zl,lJ⟩:=hO5.recs aq
 have TF:aS w5 a2 k2 [z0,z1]:=aS.nC Zl (λz hz=>by
  simp only [List.mem_cons,List.not_mem_nil,or_false]at hz;rcases hz with rfl|rfl
  .exact hz0
  .exact hz1)
 have Lz: ∀q,a2=some q->V.heap.size<=q.block/\q.block≠X/\q.block≠R/\q.block≠T/\q.block<w5.heap.size:=by
  intro q hq;subst hq;obtain ⟨b3,o3,h3,h4⟩:=TF.cell 0 aG;cases h3
  have h5:=cY h4;have h6:=lJ _ rfl;have h8:=h.o.lt;have h9:=h.res.lt;have h10:=h.tape.lt;have h11:=h.pos;have h12:=h.ext.size
  simp only at h5 h6;rcases hv with e|⟨g,e,hg⟩
  .cases e;exact ⟨hl.1,hl.2.1,hl.2.2.1,hl.2.2.2.1,h5⟩
  .rw [Co]at hg;have e2:some b3=some g:=e;cases e2;simp only;refine ⟨?_,?_,?_,?_,h5⟩<;>omega
 have hx2:=((aB.refl X w5).ez (o:=1) (v:= .slice a2 2 k2));have al:=(Ext.refl WB).alloc (.cells #[i64 z1] 3);have ho5:=(h.o.ext al).but hKx Zk.1;refine ⟨a2,k2,rfl,(ho5.cell 1).trans rfl,ho5.frozen 1,((h.tape.ext al).but hKx Zk.2.2.2).but hx2 h.pos.1.symm,ho5.set 1 _,((h.res.ext al).but hKx Zk.2.1).but hx2 h.pos.2.1.symm,((h.ext.trans (al.but T)).over hKx Zk.2.2.1).setCell (p:=⟨X,1,none⟩) h.pos.2.2.2.1 _,TF.eH hx2 (λq hq=>(Lz q hq).2.1),λq hq=> ?_,h.pos⟩;have h5:=Lz q hq;rw [World.size_setCell];exact h5
theorem Jy (w0 V:World) (T:Nat) (a:Option Addr) (c:Nat) (l:List Int) (i nl nu:Nat) (hK:w0.heap.size<=T) (hV:Ext w0 V) (hl:aS w0 a c l) (hT:bO V T a c l) (hi:i<16) (Tt:0<nl) (Wm:nl<1000) (Zm:nu<1000):
 Calls prog 26 #[.pointer (some ⟨T,0,none⟩),.int .i64 (i:Int),.int .i64 (nl:Int),.int .i64 (nu:Int)] V λe w'=> ∃(x:cJ),e= .returned (.agg x.cells.toArray)/\Ag x i nl nu/\aS w' x.la x.lc x.lines/\Fr V.heap.size x.la/\ct w' 3 x.ma x.mc (x.moves.map cj.cells)/\Fr V.heap.size x.ma/\(∀p,x.ma=some p->p.block<w'.heap.size)/\mh V T a c l w':=by
 have gl:=ah (fY.of w0 V T a c l hK hV hl);have FC:=ah (λU=>wu U 111 i hi);have HT:=ah hT;have KH:=ah hT.lt;have Mi:=ah (And.intro Tt Wm);have OI:=ah Zm
 clear hK hV hl hT hi Tt Wm Zm;go_enter func26,ntmps26
 go_upto_region 1 with fail
 obtain ⟨W0,hW,x0,Z0,A0⟩:=aV V 75 xP.cells;rw [show V.alloc (.cells #[.string {data:= #[]},.slice none 0 0,.bool false,.slice none 0 0] 75)=W0 from hW.symm];obtain ⟨R,hR⟩: ∃R,R=V.heap.size:=⟨_,rfl⟩;rw [<-hR]at A0⊢;have sO:R≠T:=bA KH.o;have GR:Hid (V.heap.size<=R):=by show _<=_;omega
 have HR:=ah A0;have HX:=ah (x0.but T);have HT:=ah (HT.o.ext x0)
 clear hW Z0 A0 hR x0;go_wp2_with fail
 refine (FC.o W0).mono ?_;rintro e w1 ⟨rfl,eL⟩;rw [eL];clear eL
 go_wp2_with fail
 refine (gl.o W0 (nl:Int) HX.o HT.o (bA Mi.o.1) (bA Mi.o.2)).mono ?_;rintro e W1 ⟨z0,rfl,Wn,hT,hx⟩;have eC:=ah (HX.o.trans hx);have wm:=ah hT;have Kn:=ah (HR.o.but hx sO)
 have Zn:=ah Wn;clear hT hx HX HT HR Wn;go_upto_region 2 with fail
 obtain ⟨WL,Zo,xl,-,AL⟩:=aV W1 3 [i64 z0];rw [show W1.alloc (.cells #[i64 z0] 3)=WL from Zo.symm];obtain ⟨BL,Zp⟩: ∃BL,BL=W1.heap.size:=⟨_,rfl⟩;rw [<-Zp]at AL⊢;obtain ⟨WX,Hk,xx,-,AX⟩:=aV WL 75 (⟨aW 111 i,some ⟨BL,0,none⟩,1,[z0],false,none,0,[]⟩:cJ).cells;rw [show WL.alloc (.cells #[.string (aW 111 i),.slice (some ⟨BL,0,none⟩) 1 1,.bool false,.slice none 0 0] 75)=WX from Hk.symm];have Wo:WL.heap.size=BL+1:=by rw [Zo,Zp];simp
 obtain ⟨X,Nu⟩: ∃X,X=BL+1:=⟨_,rfl⟩;rw [Wo,<-Nu]at AX;rw [<-Nu]
 have zb:BL≠T/\BL≠R/\X≠T/\X≠R/\BL≠X/\V.heap.size<=BL/\V.heap.size<=X:=by
  have h1:=wm.o.lt;have h2:=Kn.o.lt;have h3:=eC.o.size
  refine ⟨?_,?_,?_,?_,?_,?_,?_⟩<;>omega
 have qP:=zb.2.2.1;have Hj:=zb.2.2.2.1
 have lK:Hid (aT WX BL 3 [i64 z0]):=AL.ext xx
 have HU:Hid (OW V T R X a c l (⟨aW 111 i,some ⟨BL,0,none⟩,1,[z0],false,none,0,[]⟩:cJ) WX):=by
  refine ⟨(wm.o.ext xl).ext xx,AX,(Kn.o.ext xl).ext xx,(eC.o.trans (xl.but T)).trans (xx.but T),?_,?_,qP,Hj,sO,zb.2.2.2.2.2.2,GR.o,KH.o⟩
  .have h5:=aS.one W1 z0 (by have:=Zn.o;have:=Mi.o.2;unfold b_;omega)
   rw [<-Zo,<-Zp]at h5;exact h5.ext xx
  .intro q hq
   cases hq
   exact ⟨zb.2.2.2.2.2.1,zb.2.2.2.2.1,zb.2.1,zb.1,by have:=AX.lt;show BL<_;omega⟩
 have J8:=ah zb;clear Hk Nu xx Wo AX AL xl Zo Zp wm Kn eC zb FC;go_wp2_with fail
 refine (gl.o WX (nl:Int) HU.o.ext HU.o.tape (bA Mi.o.1) (bA Mi.o.2)).mono ?_;rintro e W3 ⟨z1,rfl,Wp,hT,hx⟩;replace HU:=ah (HU.o.next hT hx);replace lK:=ah (lK.o.but hx J8.o.1);have HZ1:=ah Wp;clear hT hx Wp;have c1:=HU.o.o.cl 1 (.slice (some ⟨BL,0,none⟩) 1 1) rfl;have c0:=lK.o.cl 0 (i64 z0) rfl;go_upto_region 3 with fail
 go_cut [32] (λv wx=> ∃b:Bool,v= .bool b/\(b=true->z0<z1)/\OW V T R X a c l (⟨aW 111 i,some ⟨BL,0,none⟩,1,[z0],false,none,0,[]⟩:cJ) wx/\aT wx BL 3 [i64 z0])
 case first=>
  as_aux_lemma=>
   by_cases Pw:z0<z1
   .go_wp2_with fail
    refine (gl.o W3 3 HU.o.ext HU.o.tape aq aq).mono ?_;rintro e W4 ⟨q,rfl,OJ,hT,hx⟩;have Nv:=ah (HU.o.next hT hx);have abK:=ah (lK.o.but hx J8.o.1);clear hT hx OJ c1 c0;go_wp2
    go_meet
    exact ⟨_,rfl,λ_=>Pw,Nv.o,abK.o⟩
   .go_wp2
    go_meet
    exact ⟨_,rfl,λh=>absurd h aG,HU.o,lK.o⟩
 case rest=>
  obtain ⟨b,rfl,hb,hU,hB⟩:=hcut;generalize wc=WB at*;clear HU lK c1 c0;have HU:=ah hU;have lK:=ah hB;have HB:=ah hb
  clear hU hB hb;go_upto_if 32 with fail
  go_cut [] (λwx=> ∃(la:Option Addr) (lc:Nat) (ls:List Int),(ls= [z0]\/(ls= [z0,z1]/\z0<z1))/\OW V T R X a c l (⟨aW 111 i,la,lc,ls,false,none,0,[]⟩:cJ) wx)
  case first=>
   as_aux_lemma=>
    cases b with
    |false=>
     go_wp2
     go_meet
     exact ⟨_,_,_,Or.inl rfl,HU.o⟩
    |true=>
     have hlt:=HB.o rfl;have c1:=HU.o.o.cl 1 (.slice (some ⟨BL,0,none⟩) 1 1) rfl;have HOW:Hid (WB.ownsRow BL 3 1 (.slice (some ⟨BL,0,none⟩) 1 1) 1 [i64 z0]):=⟨rfl,Or.inr ⟨BL,1,#[i64 z0],rfl,bY,lK.o,bY,aq,rfl,rfl⟩⟩;have hBs:BL<=WB.heap.size:=Nat.le_of_lt lK.o.lt
     go_wp2_with (
      at_builtin
      refine bC _ rfl _ _ 22 rfl BL 3 (.int .i64 0) 1 8 underlying22 Tryz.info_int rfl aq (.slice (some ⟨BL,0,none⟩) 1 1) 1 [i64 z0] rfl ?c1 (some ⟨WB.heap.size,0,none⟩) 1 1 [i64 z1] rfl rfl ?c2 ?c3 ?c4 ?c5 aq ?c6 ?_
      case c1=>exact bZ HOW.o (ar.alloc _)
      case c2=>exact λ_=>⟨_,rfl,dH WB 3 [i64 z1]⟩
      case c3=>intro u hu;rw [List.mem_singleton]at hu;subst hu;rfl
      case c4=>intro e;cases e
      case c5=>decide
      case c6=>simp;omega
      intro v1 w5 ho he hb hz hv;obtain ⟨a2,k2,rfl,c1,f1,hU2⟩:=HU.o.Wl J8.o.2.2.2.2.1 lK.o.lt (by have:=Zn.o;have:=Mi.o.2;unfold b_;omega) (by have:=HZ1.o;have:=Mi.o.2;unfold b_;omega) ho.o he.o hb.o hz.o hv.o;have Nv:=ah hU2;clear HU HOW ho he hb hz hv hBs hU2)
     go_wp2
     go_meet
     exact ⟨_,_,_,Or.inr ⟨rfl,hlt⟩,Nv.o⟩
  case rest=>
   obtain ⟨la,lc,ls,hls,hU⟩:=hcut;generalize wc=WC at*;clear HU lK HB;have HU:=ah hU;have Qb:=ah hls
   clear hU hls;go_wp2_with fail
   refine (gl.o WC 2 HU.o.ext HU.o.tape aq aq).mono ?_;rintro e W5 ⟨q,rfl,OJ,hT,hx⟩;replace HU:=ah (HU.o.next hT hx);clear hT hx OJ;go_upto_if 41 with fail
   go_cut [] (λwx=> ∃(cr:Bool) (ma:Option Addr) (mc:Nat) (ms:List cj),(cr=false->ms= [])/\j6 ms nu/\ct wx 3 ma mc (ja ms)/\Fr V.heap.size ma/\(∀p,ma=some p->p.block≠R/\p.block<wx.heap.size)/\OW V T R X a c l (⟨aW 111 i,la,lc,ls,cr,ma,mc,ms⟩:cJ) wx)
   case first=>
    rcases Bool.eq_false_or_eq_true (q==1)with hq|hq
    .as_aux_lemma=>
      have c2:=HU.o.o.cl 2 (.bool false) rfl;have f2:=HU.o.o.frozen 2;have HU6:Hid (OW V T R X a c l (⟨aW 111 i,la,lc,ls,true,none,0,[]⟩:cJ) (W5.setCell ⟨X,2,none⟩ (.bool true))):=HU.o.set 2 (.bool true) _ rfl HU.o.lines HU.o.lf;go_upto_region 7 with fail
      clear c2 f2 HU;have HU:=HU6;clear HU6;generalize (W5.setCell ⟨X,2,none⟩ (.bool true))=W6 at*;go_wp2_with fail
      rw [hq];clear hq;go_loopw [11] (λuv wr=> ∃(u:Nat) (ms:List cj) (ma:Option Addr) (mc:Nat),u<=nu/\j6 ms u/\aL wr W6.heap.size 112 3 (.slice ma ms.length mc) (ja ms)/\OW V T R X a c l (⟨aW 111 i,la,lc,ls,true,ma,mc,ms⟩:cJ) wr/\W6.heap.size<=wr.heap.size/\uv= .int .i64 (u:Int)) (λuv _=>nu-(intOf uv).toNat)
      case atStart=>exact ⟨0,[],none,0,aZ,⟨λm hm=>absurd hm aG,rfl,aZ⟩,aL.nil _ _ _ _,HU.o,bY,rfl⟩
      case round=>
       have yy:Hid (T<W6.heap.size/\X<W6.heap.size/\R<W6.heap.size/\V.heap.size<=W6.heap.size):=⟨HU.o.tape.lt,HU.o.o.lt,HU.o.res.lt,HU.o.ext.size⟩;have HLF:Hid (∀p,la=some p->p.block<W6.heap.size):=λp hp=>(HU.o.lf p hp).2.2.2.2;obtain ⟨u,ms,ma,mc,hu,Wq,hown,hU,hD,rfl⟩:=hrel;clear HU;have HU:=ah hU;have HM:=ah Wq;have HO:=ah hown;have HD:=ah hD
       clear hU Wq hown hD;by_cases hlt:u<nu
       .have bi:(u:Int)<(nu:Int):=ae
        go_wp2_with fail
        refine (gl.o wr 2 HU.o.ext HU.o.tape aq aq).mono ?_;rintro e W7 ⟨y,rfl,Nw,hT,hx⟩;have Mj:Hid (W6.heap.size<=W7.heap.size):=Nat.le_trans HD.o hx.size;have DT:=ah (HU.o.next hT hx);have Nx:=ah (HO.o.but hx yy.o.1);clear hT hx Nw HU HO HD;have hwu:IntKind.i64.wrap ((u:Int)+1)=((u+1:Nat):Int):=by rw [IntKind.wrap_i64];have:=OI.o;omega
        rcases Bool.eq_false_or_eq_true (y==1)with hy|hy
        .go_upto_region 11 with fail
         refine aO (λw'=>True) (λw'=>w'.cell? ⟨X,3,none⟩=some (.slice ma ms.length mc)) (λi=>i==11) ax (trivial) ((DT.o.o.cell 3).trans rfl) (λaD ai=> ?_);refine aJ 0 aD ai ?_;refine GL 1 aD ai ?_;refine aJ 2 aD ai ?_ (v:= .int .i64 (u:Int));refine aJ 3 aD ai ?_;refine aJ 5 aD ai ?_;replace DT:=ah (DT.o.grow (Ext.refl W7).drew);replace Nx:=ah (Nx.o.ext (Ext.refl W7).drew);replace Mj:Hid (W6.heap.size<=W7.drew.heap.size):=Mj.o;generalize W7.drew=W8 at*;refine eI 4 rfl (λKc hK=> ?_);go_simp;refine (gl.o W8 8 DT.o.ext DT.o.tape aq aq).mono ?_;rintro e W9 ⟨up,rfl,Ws,hT,hx⟩;replace DT:=ah (DT.o.next hT hx);replace Nx:=ah (Nx.o.but hx yy.o.1);replace Mj:Hid (W6.heap.size<=W9.heap.size):=Nat.le_trans Mj.o hx.size;have abL:=ah Ws;clear hT hx Ws;refine hK.o _ _ (trivial) ((DT.o.o.cell 3).trans rfl) (λaD ai=> ?_);clear hK Kc;try simp only [sS]
         refine eI 6 rfl (λKc hK=> ?_);go_simp;refine (gl.o W9 8 DT.o.ext DT.o.tape aq aq).mono ?_;rintro e tD ⟨dn,rfl,Wu,hT,hx⟩;replace DT:=ah (DT.o.next hT hx);replace Nx:=ah (Nx.o.but hx yy.o.1);replace Mj:Hid (W6.heap.size<=tD.heap.size):=Nat.le_trans Mj.o hx.size;have abM:=ah Wu;clear hT hx Wu;refine hK.o _ _ (trivial) ((DT.o.o.cell 3).trans rfl) (λaD ai=> ?_);clear hK Kc;try simp only [sS]
         refine aJ 7 aD ai ?_ (v:= .agg #[.int .i64 (u:Int),i64 up,i64 dn]);have vV:=(Ext.refl tD).alloc (.cells #[i64 (u:Int),i64 up,i64 dn] 112);refine eI 8 rfl (λKc hK=> ?_);go_simp;refine hK.o _ _ (trivial) ((((DT.o.grow vV).o.cell 3).trans rfl)) (λaD ai=> ?_);clear hK Kc;try simp only [sS]
         have HOW:Hid ((tD.alloc (.cells #[i64 (u:Int),i64 up,i64 dn] 112)).ownsRow W6.heap.size 112 3 (.slice ma ms.length mc) ms.length (ja ms).flatten):=by
             have h5:=(Nx.o.ext vV).own;rw [kA]at h5;exact h5
         have Nl:ms.length<=1000:=qj HM.o.len OI.o;have OL:(tD.alloc (.cells #[i64 (u:Int),i64 up,i64 dn] 112)).heap.size=tD.heap.size+1:=aG;refine eI 9 rfl (λKc hK=> ?_);rw [if_pos eN];refine i6 _ (.tmp 52) (.tmp 59) 73 rfl W6.heap.size 112 (.agg #[i64 0,i64 0,i64 0]) 3 24 underlying73 Tryz.info_move rfl aq (.slice ma ms.length mc) ms.length (ja ms).flatten rfl ?c1 (some ⟨tD.heap.size,0,none⟩) 1 1 [i64 (u:Int),i64 up,i64 dn] rfl rfl ?c2 ?c3 ?c4 ?c5 aq ?c6 ?c7 aq
         case c1=>exact HOW.o
         case c2=>exact λ_=>⟨_,rfl,dH tD 112 [i64 (u:Int),i64 up,i64 dn]⟩
         case c3=>intro z hz;simp only [List.mem_cons,List.not_mem_nil,or_false]at hz;rcases hz with rfl|rfl|rfl<;>rfl
         case c4=>intro e;cases e
         case c5=>omega
         case c6=>rw [OL];have:=Mj.o;omega
         intro v1 w5 ho he hb hz hv;obtain ⟨EH,EI,rfl⟩:=jn ho.o;obtain ⟨K,Sj,-,hKx⟩:=jP (base:=W6.heap.size) (v:= .slice ma ms.length mc) (by rw [OL];have:=Mj.o;omega) (λk e=>(HOW.o.lt k e).1) he.o hb.o hz.o;have Sk:Hid (OW V T R X a c l (⟨aW 111 i,la,lc,ls,true,ma,mc,ms⟩:cJ) w5):=(DT.o.grow vV).but hKx (bA yy.o) (bA yy.o) (bA yy.o) (λp hp=>bA (HLF.o p hp));obtain ⟨Mk,OM⟩: ∃Mk,Mk=ms++ [(⟨(u:Int),up,dn⟩:cj)]:=⟨_,rfl⟩;have hl2:ms.length+1=Mk.length:=by rw [OM,List.length_append];rfl
         have Wv:Hid (aL w5 W6.heap.size 112 3 (.slice EH (ms.length+1) EI) (ja Mk)):=by
             have h5:=(Nx.o.ext vV).snoc (w':=w5) (r:= [i64 (u:Int),i64 up,i64 dn]) rfl (by rw [kA];exact ho.o);have h6:=ze ms ⟨(u:Int),up,dn⟩;show aL _ _ _ _ _ _;rw [OM,h6];exact h5
         have DO:Hid (j6 Mk (u+1)):=by rw [OM];exact HM.o.snoc abL.o abM.o
         have HD8:Hid (W6.heap.size<=w5.heap.size):=by have:=hz.o;have:=Mj.o;rw [OL]at*;show _<=_;omega
         rw [hl2]at Wv;rw [hl2];clear OM hl2 ho he hb hz hv Sj hKx HOW Nl OL vV Nx DT Mj;refine hK.o _ _ (trivial) ((Sk.o.o.cell 3).trans rfl) (λaD ai=> ?_);clear hK Kc;try simp only [sS]
         refine aJ 10 aD ai ?_;have c3:=Sk.o.o.cl 3 (.slice ma ms.length mc) rfl;have f3:=Sk.o.o.frozen 3;refine bH (rs:= [11]) ax aG ?_;refine aQ.late rfl ax (λKc hK=> ?_) aQ.nil;go_simp;refine hK.o _ _ (trivial) (λaD=> ?_);clear hK Kc;try simp only [sS]
         refine aI ax ?_ _;clear aD c3 f3;have HU9:Hid (OW V T R X a c l (⟨aW 111 i,la,lc,ls,true,EH,EI,Mk⟩:cJ) (w5.setCell ⟨X,3,none⟩ (.slice EH Mk.length EI))):=Sk.o.set 3 _ _ rfl Sk.o.lines Sk.o.lf;have hx3:=((aB.refl X w5).ez (o:=3) (v:= .slice EH Mk.length EI));have HO9:=ah (Wv.o.but hx3 yy.o.2.1);have HD9:Hid (W6.heap.size<=(w5.setCell ⟨X,3,none⟩ (.slice EH Mk.length EI)).heap.size):=Nat.le_trans HD8.o hx3.size;clear hx3 Sk Wv HD8;generalize (w5.setCell ⟨X,3,none⟩ (.slice EH Mk.length EI))=OH at*;go_wp2
         exact ⟨⟨u+1,Mk,EH,EI,ae,DO.o,HO9.o,HU9.o,HD9.o,rfl⟩,by show nu-(((u+1:Nat):Int)).toNat<nu-((u:Int)).toNat;omega⟩
        .go_wp2
         exact ⟨⟨u+1,ms,ma,mc,ae,HM.o.next,Nx.o,DT.o,Mj.o,rfl⟩,by show nu-(((u+1:Nat):Int)).toNat<nu-((u:Int)).toNat;omega⟩
       .obtain rfl:u=nu:=ae
        go_wp2
        go_meet
        have hob: ∀p,ma=some p->p.block<wr.heap.size:=λp hp=>(HO.o.own.lt p.block (by rw [hp];rfl)).2;obtain ⟨ra,rc,xO,yx,Ju⟩:=HO.o.recs aq;rw [kA]at xO;cases xO
        exact ⟨true,_,_,ms,λh=>(by cases h),HM.o,yx,Ju.mono yy.o.2.2.2,λp hp=>⟨Ju.ne yy.o.2.2.1 p hp,hob p hp⟩,HU.o⟩
    .as_aux_lemma=>
      go_wp2
      go_meet
      exact ⟨false,none,0,[],λ_=>rfl,⟨λm hm=>absurd hm aG,rfl,aZ⟩,⟨bY,aq,λi hi=>absurd hi (Nat.not_lt_zero _)⟩,Fr.none _,(λp hp=>by cases hp),HU.o⟩
   case rest=>
    obtain ⟨cr,ma,mc,ms,Qc,Wq,Zl,lJ,hne,hU⟩:=hcut;generalize wc=WD at*;clear HU;have HU:=ah hU;have HM:=ah (And.intro Qc (And.intro Wq (And.intro Zl (And.intro lJ hne))))
    clear hU Qc Wq Zl lJ hne;go_upto_region 12 with fail
    as_aux_lemma=>
     obtain ⟨xf,Sh⟩: ∃xf,xf=(⟨aW 111 i,la,lc,ls,cr,ma,mc,ms⟩:cJ):=⟨_,rfl⟩
     have HF:Hid (Ag xf i nl nu/\xf.ma=ma/\xf.mc=mc/\xf.moves=ms):=by
      have h1:=Zn.o;have h2:=HZ1.o
      rw [Sh];refine ⟨⟨rfl,?_,?_,?_,HM.o.2.1,HM.o.1⟩,rfl,rfl,rfl⟩
      .rcases Qb.o with rfl|⟨rfl,-⟩
       .exact Or.inl rfl
       .exact Or.inr rfl
      .intro z hz
       rcases Qb.o with rfl|⟨rfl,-⟩
       .simp only [List.mem_cons,List.not_mem_nil,or_false]at hz;subst hz;exact h1
       .simp only [List.mem_cons,List.not_mem_nil,or_false]at hz
        rcases hz with rfl|rfl
        .exact h1
        .exact h2
      .rcases Qb.o with rfl|⟨rfl,h5⟩
       .rfl
       .show iY [z0,z1]=true
        rw [lg];intro j hj1 hj2;have:j=1:=by simp only [List.length_cons,List.length_nil]at hj2;omega
        subst this;exact h5
     rw [<-Sh]at HU;clear Sh;have Jv: ∀j v,xf.cells[j]?=some v->WD.cell? ((⟨X,0,none⟩:Addr).add j)=some v:=λj v hj=>by rw [fj,HU.o.o.cell j];exact hj
     go_wp2_with (first|(refine br rfl 75 _ rfl ⟨X,0,none⟩ rfl xf.cells _ Jv rfl rfl rfl ?_)|(refine cX rfl 75 _ _ rfl R xP.cells xf.cells HU.o.res rfl rfl ax rfl rfl ?_;intro Ci my eW))
     have za:=ah (HU.o.ext.over eW GR.o);have F_:=ah (HU.o.tape.but eW (λe=>sO e.symm))
     have Ga:Hid (aS Ci xf.la xf.lc xf.lines):=HU.o.lines.eH eW (λp hp=>(HU.o.lf p hp).2.2.1)
     have Si:Hid (ct Ci 3 xf.ma xf.mc (xf.moves.map cj.cells)):=by
      have h5:=HM.o.2.2.1.but eW (λp hp=>(HM.o.2.2.2.2 p hp).1);rw [HF.o.2.1,HF.o.2.2.1,HF.o.2.2.2];exact h5
     have Jw:Hid (Fr V.heap.size xf.la/\Fr V.heap.size xf.ma/\ ∀p,xf.ma=some p->p.block<Ci.heap.size):=⟨λp hp=>(HU.o.lf p hp).1,by rw [HF.o.2.1];exact HM.o.2.2.2.1,λp hp=>Nat.lt_of_lt_of_le (HM.o.2.2.2.2 p (by rw [<-HF.o.2.1];exact hp)).2 eW.size⟩;exact bodyPost_ret (v:= .agg xf.cells.toArray) (jo 8 _ rfl rfl my rfl rfl rfl) rfl ⟨xf,rfl,HF.o.1,Ga.o,Jw.o.1,Si.o,Jw.o.2.1,Jw.o.2.2,F_.o,za.o⟩
open Go.Sort Go.Shelf
def zf (x y:Int):Int:=if x<y then-1 else if x=y then 0 else 1
theorem mU (w:World) (x:Int):Calls prog 146 #[i64 x] w λe w'=>e= .returned (.bool false)/\w'=w:=by
 go_enter func146,ntmps146
 go_wp2
 go_ret;exact ⟨aG,rfl⟩
theorem Sl (w:World) (x y:Int):Calls prog 86 #[i64 x,i64 y] w λe w'=>e= .returned (i64 (zf x y))/\w'=w:=by
 rcases (show x<y\/(¬x<y/\y<x)\/(¬x<y/\ ¬y<x) by omega)with h1|⟨h1,h2⟩|⟨h1,h2⟩
 .have E1:Hid (zf x y= -1):=by show _=_;unfold zf;rw [if_pos h1]
  go_enter func86,ntmps86
  go_wp2_with fail
  refine (mU _ _).mono ?_;rintro e w1 ⟨rfl,rfl⟩;go_wp2_with fail
  refine (mU _ _).mono ?_;rintro e w2 ⟨rfl,rfl⟩;go_wp2
  go_ret;exact ⟨by rw [E1.o];rfl,rfl⟩
 .have E1:Hid (zf x y=1):=by show _=_;unfold zf;rw [if_neg h1,if_neg ae]
  go_enter func86,ntmps86
  go_wp2_with fail
  refine (mU _ _).mono ?_;rintro e w1 ⟨rfl,rfl⟩;go_wp2_with fail
  refine (mU _ _).mono ?_;rintro e w2 ⟨rfl,rfl⟩;go_wp2
  go_ret;exact ⟨by rw [E1.o];rfl,rfl⟩
 .have E1:Hid (zf x y=0):=by show _=_;unfold zf;rw [if_neg h1,if_pos ae]
  go_enter func86,ntmps86
  go_wp2_with fail
  refine (mU _ _).mono ?_;rintro e w1 ⟨rfl,rfl⟩;go_wp2_with fail
  refine (mU _ _).mono ?_;rintro e w2 ⟨rfl,rfl⟩;go_wp2
  go_ret;exact ⟨by rw [E1.o];rfl,rfl⟩
theorem Ml (w:World) (x y:Int):Calls prog 132 #[i64 x,i64 y] w λe w'=>e= .returned (i64 (zf y x))/\w'=w:=by
 go_enter func132,ntmps132
 go_wp2_with fail
 refine (Sl _ _ _).mono ?_;rintro e w1 ⟨rfl,rfl⟩;go_wp2
 go_ret;exact ⟨rfl,rfl⟩
theorem DU (w:World) (b o c:Nat) (l:List Int) (h:aS w (some ⟨b,o,none⟩) c l) (h0:0<l.length) (hn:l.length<=1000):
 Calls prog 92 #[.slice (some ⟨b,o,none⟩) l.length c] w λe w'=> ∃g cap,e= .returned (.slice (some ⟨g,0,none⟩) l.length cap)/\w'.ownsRow w.heap.size 3 1 (.slice (some ⟨g,0,none⟩) l.length cap) l.length (l.map i64)/\Ext w w':=by
 have hle:=h.le;have dS:=h.cap
 have hnil: ∀w,(binOp .eql 22 (.slice (some ⟨b,o,none⟩) l.length c) (.slice none 0 0)).run prog w= .ok (.bool false) w:=λw=>Lib.run_eql_slice_nil w _ _ _ _ _ _ _ underlying22;go_enter func92,ntmps92
 have HN:Hid (∀j u,(l.map i64)[j]?=some u->(w.alloc (.cells #[] 3)).cell? (Addr.add ⟨b,o,none⟩ j)=some u):=λj u hu=>by
  rw [List.getElem?_map]at hu
  obtain ⟨hj,e⟩: ∃hj:j<l.length,i64 l[j]=u:=by
   cases q:l[j]? with
   |none=>rw [q]at hu;cases hu
   |some z=>
    obtain ⟨hj,rfl⟩:=List.getElem?_eq_some_iff.1 q;rw [q]at hu;exact ⟨hj,by simpa using hu⟩
  obtain ⟨b',o',ha,hc⟩:=h.cell j hj;cases ha
  have e2:(Addr.add ⟨b,o,none⟩ j)=⟨b,o+j,none⟩:=by unfold Addr.add;split<;>simp_all
  rw [e2,<-e];exact aC ((Ext.refl w).alloc _) hc
 have HOW:Hid ((w.alloc (.cells #[] 3)).ownsRow w.heap.size 3 1 (.slice (some ⟨w.heap.size,0,none⟩) 0 0) 0 []):=
  ⟨rfl,.inr ⟨w.heap.size,0,#[],rfl,bY,aT.alloc w 3 [],bY,aq,rfl,rfl⟩⟩
 go_wp2_with (at_builtin;refine bC _ rfl (.tmp 5) (.tmp 6) 22 rfl w.heap.size 3 (.int .i64 0) 1 8 underlying22 Tryz.info_int rfl aq (.slice (some ⟨w.heap.size,0,none⟩) 0 0) 0 [] rfl HOW.o (some ⟨b,o,none⟩) l.length c (l.map i64) rfl ?c1 ?c2 ?c3 ?c4 ?c5 aq ?c6 ?_;rotate_right;intro v1 w5 ho he hb hz hv)
 case c1=>simp
 case c2=>exact λ_=>⟨_,rfl,HN.o⟩
 case c3=>intro u hu;obtain ⟨z,_,rfl⟩:=List.mem_map.1 hu;rfl
 case c4=>intro e;cases e
 case c5=>omega
 case c6=>simp
 have x5:Ext w w5:=he.o w ((Ext.refl w).alloc _) bY;have jl:=ho.o;rw [Nat.zero_add,List.nil_append]at jl;rcases jl.2 with⟨-,Q6⟩|⟨g,cap,cur,rfl,-⟩
 .omega
 .have HR:=ah jl
  clear jl ho he hb hz hv hnil;go_wp2
  go_ret;exact ⟨g,cap,rfl,HR.o,x5⟩
theorem Gb (x y:Int):zf x y<0↔x<y:=by
 unfold zf;split
 .simp [*]
 .split<;>simp [*]
theorem OO (l:List Int):(l.mergeSort λx y=> !(ltOf (λa b:Int=>zf b a) y x))=desc l:=by
 have e:(λx y:Int=> !(ltOf (λa b:Int=>zf b a) y x))=λa b=>decide (b<=a):=by
  funext x y
  have h:=Gb x y;unfold ltOf;by_cases q:x<y
  .have h2:=h.2 q
   have h3:decide (zf x y<0)=true:=by simpa using h2
   have h4:decide (y<=x)=false:=by simp;omega
   rw [h3,h4];rfl
  .have h2: ¬zf x y<0:=λe=>q (h.1 e)
   have h3:decide (zf x y<0)=false:=by simpa using h2
   have h4:decide (y<=x)=true:=by simp;omega
   rw [h3,h4];rfl
 unfold desc;rw [e]
theorem Sm:SWO (ltOf (λa b:Int=>zf b a)):=by
 have e: ∀a b:Int,ltOf (λa b:Int=>zf b a) a b=decide (b<a):=λa b=>by
  unfold ltOf;rw [Bool.eq_iff_iff];simp only [decide_eq_true_iff];exact Gb b a
 refine ⟨λx=>by rw [e];simp,λx y z h1 h2=> ?_,λx y z h1 h2=> ?_⟩
 .rw [e]at*;simp at*;omega
 .rw [e]at*;simp at*;omega
theorem zg {α:Type} [Inhabited α] (enc:α->Value) (w:World) (blk off m:Nat) (d:Array α) (os:Array Obj):aB blk w (sortWorld enc w blk off m d os):=
 ⟨rfl,rfl,rfl,Nat.le_add_right _ _,by unfold sortWorld;rw [size_grow,size_putRow];exact Nat.le_add_right _ _,λk hk hne=>by
   unfold sortWorld;rw [heap_grow_old _ _ (by simpa [Sort.ahead]using hk)];unfold putRow mapBlock;simp [Array.getElem?_modify,Ne.symm hne,Sort.ahead]⟩
theorem zh (w:World) (b o c:Nat) (l:List Int) (h:aS w (some ⟨b,o,none⟩) c l) (h0:0<l.length) (hn:l.length<=1000):
 Calls prog 76 #[.slice (some ⟨b,o,none⟩) l.length c] w λe w'=> ∃g cap,e= .returned (.slice (some ⟨g,0,none⟩) l.length cap)/\(∀j (hj:j<(desc l).length),w'.cell? ⟨g,j,none⟩=some (i64 (desc l)[j]))/\Ext w w':=by
 have Ny:=ah (DU w b o c l h h0 hn);clear h;go_enter func76,ntmps76
 go_wp2_with fail
 refine Ny.o.mono ?_;rintro e w1 ⟨g,cap,rfl,⟨-,⟨-,Q6⟩|⟨g',cap',cur,e2,hg,OP,-,-,-,qR⟩⟩,x1⟩
 .omega
 cases e2
 rw [Nat.mul_one]at qR;have IJ:g<w1.heap.size:=(Array.getElem?_eq_some_iff.1 OP).1
 have hH:Holds (λx:Int=>i64 x) w1 g 0 l.toArray:=by
  intro j hj;rw [List.size_toArray]at hj;rw [Nat.zero_add,getElem!_pos _ j (by rw [List.size_toArray];exact hj)]
  have h1:cur.toList[j]?=some (i64 l[j]):=by
   have h2:(cur.toList.take l.length)[j]?=some (i64 l[j]):=by rw [qR,List.getElem?_map,List.getElem?_eq_getElem hj];rfl
   rw [List.getElem?_take]at h2;rw [if_pos hj]at h2;exact h2
  have hA:aT w1 g 3 cur.toList:=OP;refine ⟨?_,hA.frozen j⟩;rw [hA.cell j,h1];simp
 have eg: ∀args w,(callFunc 132 args).run prog w= .ok (.enter 132 args) w:=enters_of func132 ax rfl
 have Ww: ∀x y:Int,ltOf (λa b:Int=>zf b a) x y=false->ltOf (λa b:Int=>zf b a) y x=false->x=y:=by
  intro x y h1 h2;unfold ltOf at h1 h2;rw [decide_eq_false_iff_not,Gb]at h1 h2;omega
 have tI:CmpLays1 prog 132 #[] (λx:Int=>i64 x) (λa b:Int=>zf b a) g 0 l.toArray.size w1:=by
  intro m os dk _ x y;refine (Ml _ x y).mono ?_;rintro e w' ⟨he,rfl⟩;exact ⟨he,ar.grow⟩
 have hS:=Any.slices_SortFunc_total Tryz.sortL (λx:Int=>i64 x) (λ_=>rfl) (λa b:Int=>zf b a) Sm 132 #[] g 0 cap l.toArray w1 eg tI hH IJ (by rw [List.size_toArray];omega) Ww;rw [List.size_toArray]at hS;change Calls prog 131 _ _ _ at hS
 have HS:=ah hS;have HH:=ah hH;clear hS tI Ww eg qR hH Ny;have HC:=ah OP;clear OP;go_wp2_with fail
 refine HS.o.mono ?_;rintro e w2 ⟨rfl,m,os,hw2⟩;rw [OO]at hw2;have hw:SW (λx:Int=>i64 x) w1 g 0 (desc l).toArray w2:=⟨m,os,hw2⟩;have hlen:(desc l).toArray.size=l.toArray.size:=by rw [List.size_toArray,List.size_toArray,uW]
 have hR:=hw.holds IJ HH.o hlen;have hX:aB g w1 w2:=by rw [hw2];exact zg _ _ _ _ _ _ _
 have HR:=ah hR;have HX:=ah (hX.ext x1 hg);clear hw2 hw hlen hR hX x1;go_wp2
 go_ret;refine ⟨g,cap,rfl,λj hj=> ?_,HX.o⟩;have h5:=(HR.o j (by rw [List.size_toArray];exact hj)).1;rw [Nat.zero_add,getElem!_pos _ j (by rw [List.size_toArray];exact hj)]at h5;exact h5
section
variable{P:Program} {ops:Array Oper} {Q:Exit->Act->World->Prop} {rest:List Oper} {o:Oper} {a:Act} {w:World}
theorem xQ {K:Act->World->Prop} (s x:Operand) (t e:TypeId) (z:Value) (size bytes:Nat) (ho:o.op= .call {callee:= .builtin .append,args:= #[s,x],argTypes:= #[t,t]})
 (ht:P.underlying t=some (.slice e)) (iR:(P.info? e).map (λi=>(i.zero,i.size,i.bytes))=some (some z,size,bytes)) (hzs:z.cells.size=size) (hsz:0<size) (hby:bytes<=100)
 {D:Nat} {ga:Option Addr} {gc:Nat} {rows:List (List Value)} (hs:a.eval s= .slice ga rows.length gc) (own:aL w D e size (.slice ga rows.length gc) rows)
 {B:Nat} {r:List Value} (hx:a.eval x= .slice (some ⟨B,0,none⟩) 1 1) (hB:aT w B e r) (hr:r.length=size) (h1: ∀u∈r,u.oneCell'=true) (h63:rows.length<=1100000000000) (hD:D<=w.heap.size)
 (h: ∀g2 k2 w' b,aL w' D e size (.slice g2 (rows.length+1) k2) (rows++ [r])->Hid (D<=b/\(b=w.heap.size\/ ∃q,ga=some q/\q.block=b)/\ ∀q,g2=some q->w.heap.size<=q.block\/ ∃p,ga=some p/\p.block=q.block)->aB b w w'->K (a.put o.dst (.slice g2 (rows.length+1) k2)) w'):Oper.wp P o a w K Q:=by
 refine i6 w s x t ho D e z size bytes ht iR hzs hsz _ rows.length rows.flatten hs own.own (some ⟨B,0,none⟩) 1 1 r hx ae (λ_=>⟨_,rfl,λj u hj=> ?_⟩) h1 (λe=>by cases e) ae hby hD ?_ aq
 .rw [fj,hB.cell];exact hj
 intro v1 w5 ho he hb hz hv;obtain ⟨g2,k2,rfl⟩:=jn ho.o;obtain ⟨b,Sj,Mh,hKx⟩:=jP (base:=D) (v:= .slice ga rows.length gc) hD (λk q=>(own.own.lt k q).1) he.o hb.o hz.o;refine h g2 k2 w5 b (own.snoc hr ho.o) ⟨Sj,?_,λq hq=> ?_⟩ hKx
 .rcases Mh with q|q
  .exact .inl q
  .cases ga with
   |none=>cases q
   |some q'=>exact .inr ⟨q',rfl,by have e2:some q'.block=some b:=q;cases e2;rfl⟩
 .subst hq
  rcases hv.o with e1|⟨g,e1,e2⟩
  .cases ga with
   |none=>cases e1
   |some q'=>exact .inr ⟨q',rfl,by have e3:some q.block=some q'.block:=e1;exact (Option.some.inj e3).symm⟩
  .have e3:some q.block=some g:=e1
   cases e3;exact .inl e2
theorem jQ (s x:Operand) (t e:TypeId) (z:Value) (size bytes:Nat) (hgd:o.guard=none) (ho:o.op= .call {callee:= .builtin .append,args:= #[s,x],argTypes:= #[t,t]})
 (ht:P.underlying t=some (.slice e)) (iR:(P.info? e).map (λi=>(i.zero,i.size,i.bytes))=some (some z,size,bytes)) (hzs:z.cells.size=size) (hsz:0<size) (hby:bytes<=100)
 {D:Nat} {ga:Option Addr} {gc:Nat} {rows:List (List Value)} (hs:a.eval s= .slice ga rows.length gc) (own:aL w D e size (.slice ga rows.length gc) rows)
 {B:Nat} {r:List Value} (hx:a.eval x= .slice (some ⟨B,0,none⟩) 1 1) (hB:aT w B e r) (hr:r.length=size) (h1: ∀u∈r,u.oneCell'=true) (h63:rows.length<=1100000000000) (hD:D<=w.heap.size)
 (h: ∀g2 k2 w' b,aL w' D e size (.slice g2 (rows.length+1) k2) (rows++ [r])->Hid (D<=b/\(b=w.heap.size\/ ∃q,ga=some q/\q.block=b)/\ ∀q,g2=some q->w.heap.size<=q.block\/ ∃p,ga=some p/\p.block=q.block)->aB b w w'->wpList P ops Q rest (a.put o.dst (.slice g2 (rows.length+1) k2)) w'):wpList P ops Q (o::rest) a w:=
 wpList_plain hgd λK hK=>xQ s x t e z size bytes ho ht iR hzs hsz hby hs own hx hB hr h1 h63 hD λg2 k2 w' b h2 h3 h4=>hK _ _ (h g2 k2 w' b h2 h3 h4)
end
theorem BU (l:List Int):(dY l).flatten=l.map i64:=by
 induction l with
 |nil=>rfl
 |cons a l ih=>rw [dY,List.map_cons,List.flatten_cons,<-dY,ih];rfl
theorem Mm (w:World) (a:Option Addr) (c:Nat) (l:List Int) (h:aS w a c l) (h0:l= []->a=none/\c=0) (hn:l.length<=1000):
 Calls prog 92 #[.slice a l.length c] w λe w'=> ∃g k,e= .returned (.slice g l.length k)/\aL w' w.heap.size 3 1 (.slice g l.length k) (dY l)/\Ext w w':=by
 cases l with
 |nil=>
  obtain ⟨rfl,rfl⟩:=h0 rfl;have hnil:=λw a n c=>Lib.run_eql_slice_nil w _ _ a n c 0 0 underlying22;go_enter func92,ntmps92
  go_wp2
  go_ret;exact ⟨none,0,rfl,aL.nil _ _ _ _,ar⟩
 |cons x l=>
  obtain ⟨b,o,rfl,-⟩:=h.cell 0 aG;refine (DU w b o c (x::l) h aG hn).mono ?_;rintro e w1 ⟨g,k,rfl,ho,x1⟩;exact ⟨_,k,rfl,⟨by rw [BU,cf];exact ho,λr hr=>by obtain ⟨z,-,rfl⟩:=List.mem_map.1 hr;rfl⟩,x1⟩
theorem DX {w:World} {B:Nat} {g:Option Addr} {n k:Nat} {l:List Int} (h:aL w B 3 1 (.slice g n k) (dY l)) (hl:gO l):aS w g k l/\Fr B g:=by
 obtain ⟨a,c,e,hr,hf⟩:=h.recs aq;cases e
 exact ⟨aS.nC hr hl,hf⟩
theorem aS.wE {w:World} {a:Option Addr} {c:Nat} {l:List Int} (h:aS w a c l):gO l:=λz hz=>by
 obtain ⟨i,hi,rfl⟩:=List.mem_iff_getElem.1 hz;exact h.T4 i hi
