/- Texts of the proof. -/
import Derived.Test.YtkpngkdgphojlaaGreatCc18
import Derived.Test.YtkpngkdgphojlaaGreatCc20
set_option linter.all false
namespace Go.Proofs.YtkpngkdgphojlaaGreat
open Go.RowKit
theorem D6 {l:List Int} {u:Int} (h:gG l=true) (hu: ∀z∈l,z<u):gG (l++ [u])=true:=by
 rw [jB]at h⊢;intro j h1 h2;rw [List.length_append]at h2;simp only [List.length_cons,List.length_nil]at h2;have e1:eF (l++ [u]) (j-1)=eF l (j-1):=by unfold eF;rw [List.getElem?_append_left (by omega)]
 by_cases q:j<l.length
 ·have e2:eF (l++ [u]) j=eF l j:=by unfold eF;rw [List.getElem?_append_left q]
  rw [e1,e2];exact h j h1 q
 ·have e2:eF (l++ [u]) j=u:=by unfold eF;rw [List.getElem?_append_right (by omega),show j-l.length=0 by omega];rfl
  have e3:eF l (j-1)=l[j-1]'(by omega):=by unfold eF;rw [List.getElem?_eq_getElem (by omega)];rfl
  rw [e1,e2,e3];exact hu _ (List.getElem_mem _)
structure iT (l:List bH) (u:Nat):Prop where
 move: ∀m∈l,(0≤m.unit∧m.unit<u)∧(0≤m.up∧m.up<8)∧(0≤m.down∧m.down<8)
 wU:gG (l.map bH.unit)=true
 len:l.length≤u
theorem iT.next {l:List bH} {u:Nat} (h:iT l u):iT l (u+1):=⟨fun m hm=>by have:=h.move m hm;refine ⟨⟨this.1.1,by omega⟩,this.2⟩,h.wU,by have:=h.len;omega⟩
theorem iT.snoc {l:List bH} {u:Nat} {up dn:Int} (h:iT l u) (h1:0≤up∧up<8) (h2:0≤dn∧dn<8):iT (l++ [⟨(u:Int),up,dn⟩]) (u+1):=by
 refine ⟨?_,?_,by have:=h.len;rw [List.length_append];simp only [List.length_cons,List.length_nil];omega⟩
 ·intro m hm
  rcases List.mem_append.1 hm with e|e
  ·have:=h.move m e;refine ⟨⟨this.1.1,by omega⟩,this.2⟩
  ·rw [List.mem_singleton]at e;subst e;exact ⟨⟨by simp only;omega,by simp only;omega⟩,h1,h2⟩
 ·rw [List.map_append]
  refine D6 h.wU ?_;intro z hz;obtain ⟨m,hm,rfl⟩:=List.mem_map.1 hz;exact (h.move m hm).1.2
structure vV (x:bI) (i nl nu:Nat):Prop where
 name:x.name=aL 111 i
 lines:x.lines.length=1∨x.lines.length=2
 line: ∀z∈x.lines,0≤z∧z<nl
 wU:gG x.lines=true
 moves:iT x.moves nu
 abp:x.bJ=false→x.moves= []
def pG:bI:=⟨{data:= #[]},none,0,[],false,none,0,[]⟩
def gK (l:List bH):List (List Value):=l.map bH.cells
theorem uT (l:List bH) (g:bH):gK (l++ [g])=gK l++ [[i64 g.unit,i64 g.up,i64 g.down]]:=by simp [gK,bH.cells]
theorem jl (l:List bH):(gK l).length=l.length:=by simp [gK]
theorem Tryz.info_move:(Tryz.prog.info? 140).map (fun i=>(i.zero,i.size,i.bytes))=some (some (.agg #[i64 0,i64 0,i64 0]),3,24):=by kernel_rfl
theorem gS {w w':World} {base:Nat} {v:Value} (hle:base≤w.heap.size) (hown: ∀k,v.ownBlock=some k→base≤k) (he: ∀a0,Ext a0 w→a0.heap.size≤base→Ext a0 w') (hb: ∀k,k<w.heap.size→some k≠v.ownBlock→w'.heap[k]?=w.heap[k]?) (hz:w.heap.size≤w'.heap.size): ∃K,base≤K∧(K=w.heap.size∨v.ownBlock=some K)∧ak K w w':=by
 have h0:Ext {w with heap:= #[]} w:=⟨⟨rfl,rfl,rfl,Nat.zero_le _,fun k hk=>absurd hk (Nat.not_lt_zero _)⟩,Nat.le_refl _⟩;have h1:=he _ h0 (Nat.zero_le _);cases q:v.ownBlock with
 |none=>exact ⟨w.heap.size,hle,.inl rfl,h1.below.os,h1.below.tape,h1.below.output,h1.drawn,hz,fun k hk _=>hb k hk (by rw [q];simp)⟩
 |some g=>exact ⟨g,hown g q,.inr rfl,h1.below.os,h1.below.tape,h1.below.output,h1.drawn,hz,fun k hk hne=>hb k hk (by rw [q];intro e;cases e;exact hne rfl)⟩
structure OW (V:World) (T R X:Nat) (a:Option Addr) (c:Nat) (l:List Int) (x:bI) (W:World):Prop where
 tape:bn W T a c l
 out:aG W X 87 x.cells
 res:aG W R 87 pG.cells
 ext:ak T V W
 lines:aA W x.la x.lc x.lines
 lf: ∀p,x.la=some p→V.heap.size≤p.block∧p.block≠X∧p.block≠R∧p.block≠T∧p.block<W.heap.size
 pos:X≠T∧X≠R∧R≠T∧V.heap.size≤X∧V.heap.size≤R∧T<V.heap.size
theorem OW.next {V W W':World} {T R X:Nat} {a:Option Addr} {c:Nat} {l:List Int} {x:bI} (h:OW V T R X a c l x W) (hT:bn W' T a c l) (hx:ak T W W'):OW V T R X a c l x W':=
 ⟨hT,h.out.but hx h.pos.1,h.res.but hx h.pos.2.2.1,h.ext.trans hx,h.lines.fS hx (fun p hp=>(h.lf p hp).2.2.2.1),fun p hp=>by have:=h.lf p hp;have:=hx.size;refine ⟨?_,?_,?_,?_,?_⟩<;>omega,h.pos⟩
theorem OW.grow {V W W':World} {T R X:Nat} {a:Option Addr} {c:Nat} {l:List Int} {x:bI} (h:OW V T R X a c l x W) (hx:Ext W W'):OW V T R X a c l x W':=h.next (h.tape.ext hx) (hx.but T)
theorem OW.but {V W W':World} {T R X K:Nat} {a:Option Addr} {c:Nat} {l:List Int} {x:bI} (h:OW V T R X a c l x W) (hx:ak K W W') (hV:V.heap.size≤K) (hX:X≠K) (hR:R≠K) (hl: ∀p,x.la=some p→p.block≠K):OW V T R X a c l x W':=
 ⟨h.tape.but hx (by have:=h.pos.2.2.2.2.2;omega),h.out.but hx hX,h.res.but hx hR,h.ext.over hx hV,h.lines.fS hx hl,fun p hp=>by have:=h.lf p hp;have:=hx.size;refine ⟨?_,?_,?_,?_,?_⟩<;>omega,h.pos⟩
theorem OW.set {V W:World} {T R X:Nat} {a:Option Addr} {c:Nat} {l:List Int} {x:bI} (h:OW V T R X a c l x W) (j:Nat) (v:Value) (x':bI) (hc:x'.cells=x.cells.set j v) (hs:aA W x'.la x'.lc x'.lines) (hf: ∀p,x'.la=some p→V.heap.size≤p.block∧p.block≠X∧p.block≠R∧p.block≠T∧p.block<W.heap.size):OW V T R X a c l x' (W.setCell ⟨X,j,none⟩ v):=by
 have hx:=((ak.refl X W).et (o:=j) (v:=v));exact ⟨h.tape.but hx h.pos.1.symm,by rw [hc];exact h.out.set j v,h.res.but hx h.pos.2.1.symm,h.ext.setCell (p:=⟨X,j,none⟩) h.pos.2.2.2.1 _,hs.fS hx (fun p hp=>(hf p hp).2.1),fun p hp=>by have:=hf p hp;have:=hx.size;refine ⟨?_,?_,?_,?_,?_⟩<;>omega,h.pos⟩
theorem OW.Q8 {V WB w5:World} {T R X BL:Nat} {a:Option Addr} {c:Nat} {l:List Int} {nm:ByteArray} {z0 z1:Int} {v1:Value} (h:OW V T R X a c l (⟨nm,some ⟨BL,0,none⟩,1,[z0],false,none,0,[]⟩:bI) WB) (hX:BL≠X) (hL:BL<WB.heap.size) (hz0:br z0) (hz1:br z1)
 (ho:w5.ownsRow BL 3 1 v1 2 [i64 z0,i64 z1]) (he: ∀a0,Ext a0 (WB.alloc (.cells #[i64 z1] 3))→a0.heap.size≤BL→Ext a0 w5) (hb: ∀k,k<(WB.alloc (.cells #[i64 z1] 3)).heap.size→some k≠Value.ownBlock (.slice (some ⟨BL,0,none⟩) 1 1)→w5.heap[k]?=(WB.alloc (.cells #[i64 z1] 3)).heap[k]?) (hz:(WB.alloc (.cells #[i64 z1] 3)).heap.size≤w5.heap.size)
 (hv:v1.ownBlock=Value.ownBlock (.slice (some ⟨BL,0,none⟩) 1 1)∨ ∃g,v1.ownBlock=some g∧(WB.alloc (.cells #[i64 z1] 3)).heap.size≤g):
 ∃a2 k2,v1= .slice a2 2 k2∧w5.cell? ⟨X,1,none⟩=some (.slice (some ⟨BL,0,none⟩) 1 1)∧w5.frozen? ⟨X,1,none⟩=false∧OW V T R X a c l (⟨nm,a2,k2,[z0,z1],false,none,0,[]⟩:bI) (w5.setCell ⟨X,1,none⟩ (.slice a2 2 k2)):=by
 have nj:(WB.alloc (.cells #[i64 z1] 3)).heap.size=WB.heap.size+1:=by simp
 have hl:=h.lf _ rfl;simp only at hl;obtain ⟨K,M_,EZ,hKx⟩:=gS (base:=BL) (v:= .slice (some ⟨BL,0,none⟩) 1 1) (by rw [nj];omega) (fun k e=>by cases e;exact Nat.le_refl _) he hb hz
 have Tk:X≠K∧R≠K∧V.heap.size≤K∧T≠K:=by
  have h1:=h.out.lt;have h2:=h.res.lt;have h4:=h.pos
  rcases EZ with e|e
  ·refine ⟨?_,?_,?_,?_⟩<;>omega
  ·cases e;exact ⟨hl.2.1.symm,hl.2.2.1.symm,hl.1,hl.2.2.2.1.symm⟩
 have hO5:aH w5 BL 3 1 v1 (dp [z0,z1]):=⟨ho,fun r hr=>by simp [dp]at hr;rcases hr with rfl|rfl<;>rfl⟩;obtain ⟨a2,k2,rfl,Tl,jU⟩:=hO5.recs (by decide)
 have OC:aA w5 a2 k2 [z0,z1]:=aA.kn Tl (fun z hz=>by
  simp only [List.mem_cons,List.not_mem_nil,or_false]at hz;rcases hz with rfl|rfl
  ·exact hz0
  ·exact hz1)
 have Fu: ∀q,a2=some q→V.heap.size≤q.block∧q.block≠X∧q.block≠R∧q.block≠T∧q.block<w5.heap.size:=by
  intro q hq;subst hq;obtain ⟨b3,o3,h3,h4⟩:=OC.cell 0 (by simp);cases h3
  have h5:=cU h4;have h6:=jU _ rfl;have h8:=h.out.lt;have h9:=h.res.lt;have h10:=h.tape.lt;have h11:=h.pos;have h12:=h.ext.size
  simp only at h5 h6;rcases hv with e|⟨g,e,hg⟩
  ·cases e;exact ⟨hl.1,hl.2.1,hl.2.2.1,hl.2.2.2.1,h5⟩
  ·rw [nj]at hg;have e2:some b3=some g:=e;cases e2;simp only;refine ⟨?_,?_,?_,?_,h5⟩<;>omega
 have hx2:=((ak.refl X w5).et (o:=1) (v:= .slice a2 2 k2));have al:=(Ext.refl WB).alloc (.cells #[i64 z1] 3);have Q9:=(h.out.ext al).but hKx Tk.1;refine ⟨a2,k2,rfl,(Q9.cell 1).trans rfl,Q9.frozen 1,((h.tape.ext al).but hKx Tk.2.2.2).but hx2 h.pos.1.symm,Q9.set 1 _,((h.res.ext al).but hKx Tk.2.1).but hx2 h.pos.2.1.symm,((h.ext.trans (al.but T)).over hKx Tk.2.2.1).setCell (p:=⟨X,1,none⟩) h.pos.2.2.2.1 _,OC.fS hx2 (fun q hq=>(Fu q hq).2.1),fun q hq=> ?_,h.pos⟩;have h5:=Fu q hq;rw [World.size_setCell];exact h5
set_option maxHeartbeats 4000000 in
set_option maxRecDepth 100000 in
theorem D7 (w0 V:World) (T:Nat) (a:Option Addr) (c:Nat) (l:List Int) (i nl nu:Nat) (hK:w0.heap.size≤T) (hV:Ext w0 V) (hl:aA w0 a c l) (hT:bn V T a c l) (hi:i<16) (N8:0<nl) (Q_:nl<1000) (OD:nu<1000):
 Calls Tryz.prog 36 #[.pointer (some ⟨T,0,none⟩),.int .i64 (i:Int),.int .i64 (nl:Int),.int .i64 (nu:Int)] V fun e w'=> ∃(x:bI),e= .returned (.agg x.cells.toArray)∧vV x i nl nu∧aA w' x.la x.lc x.lines∧Fr V.heap.size x.la∧bP w' 3 x.ma x.mc (x.moves.map bH.cells)∧Fr V.heap.size x.ma∧(∀p,x.ma=some p→p.block<w'.heap.size)∧ke V T a c l w':=by
 have eQ:=ae (eu.of w0 V T a c l hK hV hl);have Az:=ae (fun U=>sG U 111 i hi);have HT:=ae hT;have JL:=ae hT.lt;have D8:=ae (And.intro N8 Q_);have IQ:=ae OD
 clear hK hV hl hT hi N8 Q_ OD;go_enter Tryz.func36,Tryz.ntmps36
 go_upto_region 1 with fail
 obtain ⟨W0,hW,x0,Z0,A0⟩:=aB V 87 pG.cells;rw [show V.alloc (.cells #[.string {data:= #[]},.slice none 0 0,.bool false,.slice none 0 0] 87)=W0 from hW.symm];obtain ⟨R,hR⟩: ∃R,R=V.heap.size:=⟨_,rfl⟩;rw [←hR]at A0⊢;have pA:R≠T:=by have:=JL.out;omega
 have xP:Hid (V.heap.size≤R):=by show _≤_;omega
 have HR:=ae A0;have HX:=ae (x0.but T);have HT:=ae (HT.out.ext x0)
 clear hW Z0 A0 hR x0;go_wp2_with fail
 refine (Az.out W0).mono ?_;rintro e w1 ⟨rfl,eE⟩;rw [eE];clear eE
 go_wp2_with fail
 refine (eQ.out W0 (nl:Int) HX.out HT.out (by have:=D8.out.1;omega) (by have:=D8.out.2;omega)).mono ?_;rintro e W1 ⟨z0,rfl,Ra,hT,hx⟩;have eK:=ae (HX.out.trans hx);have rL:=ae hT;have Oq:=ae (HR.out.but hx pA)
 have S5:=ae Ra;clear hT hx HX HT HR Ra;go_upto_region 2 with fail
 obtain ⟨WL,Tm,xl,-,AL⟩:=aB W1 3 [i64 z0];rw [show W1.alloc (.cells #[i64 z0] 3)=WL from Tm.symm];obtain ⟨BL,Tn⟩: ∃BL,BL=W1.heap.size:=⟨_,rfl⟩;rw [←Tn]at AL⊢;obtain ⟨WX,K9,xx,-,AX⟩:=aB WL 87 (⟨aL 111 i,some ⟨BL,0,none⟩,1,[z0],false,none,0,[]⟩:bI).cells;rw [show WL.alloc (.cells #[.string (aL 111 i),.slice (some ⟨BL,0,none⟩) 1 1,.bool false,.slice none 0 0] 87)=WX from K9.symm];have Rb:WL.heap.size=BL+1:=by rw [Tm,Tn];simp
 obtain ⟨X,IP⟩: ∃X,X=BL+1:=⟨_,rfl⟩;rw [Rb,←IP]at AX;rw [←IP]
 have xj:BL≠T∧BL≠R∧X≠T∧X≠R∧BL≠X∧V.heap.size≤BL∧V.heap.size≤X:=by
  have h1:=rL.out.lt;have h2:=Oq.out.lt;have h3:=eK.out.size
  refine ⟨?_,?_,?_,?_,?_,?_,?_⟩<;>omega
 have oM:=xj.2.2.1;have CL:=xj.2.2.2.1
 have kp:Hid (aG WX BL 3 [i64 z0]):=AL.ext xx
 have HU:Hid (OW V T R X a c l (⟨aL 111 i,some ⟨BL,0,none⟩,1,[z0],false,none,0,[]⟩:bI) WX):=by
  refine ⟨(rL.out.ext xl).ext xx,AX,(Oq.out.ext xl).ext xx,(eK.out.trans (xl.but T)).trans (xx.but T),?_,?_,oM,CL,pA,xj.2.2.2.2.2.2,xP.out,JL.out⟩
  ·have h5:=aA.one W1 z0 (by have:=S5.out;have:=D8.out.2;unfold br;omega)
   rw [←Tm,←Tn]at h5;exact h5.ext xx
  ·intro q hq
   cases hq
   exact ⟨xj.2.2.2.2.2.1,xj.2.2.2.2.1,xj.2.1,xj.1,by have:=AX.lt;show BL<_;omega⟩
 have E4:=ae xj;clear K9 IP xx Rb AX AL xl Tm Tn rL Oq eK xj Az;go_wp2_with fail
 refine (eQ.out WX (nl:Int) HU.out.ext HU.out.tape (by have:=D8.out.1;omega) (by have:=D8.out.2;omega)).mono ?_;rintro e W3 ⟨z1,rfl,Rc,hT,hx⟩;replace HU:=ae (HU.out.next hT hx);replace kp:=ae (kp.out.but hx E4.out.1);have YM:=ae Rc;clear hT hx Rc;have c1:=HU.out.out.cl 1 (.slice (some ⟨BL,0,none⟩) 1 1) rfl;have c0:=kp.out.cl 0 (i64 z0) rfl;go_upto_region 3 with fail
 go_cut [32] (fun v wx=> ∃b:Bool,v= .bool b∧(b=true→z0<z1)∧OW V T R X a c l (⟨aL 111 i,some ⟨BL,0,none⟩,1,[z0],false,none,0,[]⟩:bI) wx∧aG wx BL 3 [i64 z0])
 case first=>
  as_aux_lemma=>
   by_cases hgt:z0<z1
   ·go_wp2_with fail
    refine (eQ.out W3 3 HU.out.ext HU.out.tape (by decide) (by decide)).mono ?_;rintro e W4 ⟨q,rfl,G4,hT,hx⟩;have Am:=ae (HU.out.next hT hx);have VC:=ae (kp.out.but hx E4.out.1);clear hT hx G4 c1 c0;go_wp2_with fail
    go_meet
    exact ⟨_,rfl,fun _=>hgt,Am.out,VC.out⟩
   ·go_wp2_with fail
    go_meet
    exact ⟨_,rfl,fun h=>absurd h (by simp),HU.out,kp.out⟩
 case rest=>
  obtain ⟨b,rfl,hb,hU,hB⟩:=hcut;generalize wc=WB at*;clear HU kp c1 c0;have HU:=ae hU;have kp:=ae hB;have HB:=ae hb
  clear hU hB hb;go_upto_if 32 with fail
  go_cut [] (fun wx=> ∃(la:Option Addr) (lc:Nat) (ls:List Int),(ls= [z0]∨(ls= [z0,z1]∧z0<z1))∧OW V T R X a c l (⟨aL 111 i,la,lc,ls,false,none,0,[]⟩:bI) wx)
  case first=>
   as_aux_lemma=>
    cases b with
    |false=>
     go_wp2_with fail
     go_meet
     exact ⟨_,_,_,Or.inl rfl,HU.out⟩
    |true=>
     have hlt:=HB.out rfl;have c1:=HU.out.out.cl 1 (.slice (some ⟨BL,0,none⟩) 1 1) rfl;have HOW:Hid (WB.ownsRow BL 3 1 (.slice (some ⟨BL,0,none⟩) 1 1) 1 [i64 z0]):=⟨rfl,Or.inr ⟨BL,1,#[i64 z0],rfl,Nat.le_refl _,kp.out,Nat.le_refl _,by decide,rfl,rfl⟩⟩;have hBs:BL≤WB.heap.size:=Nat.le_of_lt kp.out.lt
     go_wp2_with (
      at_builtin
      refine aV _ rfl _ _ 22 rfl BL 3 (.int .i64 0) 1 8 Tryz.underlying22 Tryz.info_int rfl (by decide) (.slice (some ⟨BL,0,none⟩) 1 1) 1 [i64 z0] rfl ?c1 (some ⟨WB.heap.size,0,none⟩) 1 1 [i64 z1] rfl rfl ?c2 ?c3 ?c4 ?c5 (by decide) ?c6 ?_
      case c1=>exact bG HOW.out ((Ext.refl _).alloc _)
      case c2=>exact fun _=>⟨_,rfl,cC WB 3 [i64 z1]⟩
      case c3=>intro u hu;rw [List.mem_singleton]at hu;subst hu;rfl
      case c4=>intro e;cases e
      case c5=>decide
      case c6=>simp;omega
      intro v1 w5 ho he hb hz hv;obtain ⟨a2,k2,rfl,c1,f1,YN⟩:=HU.out.Q8 E4.out.2.2.2.2.1 kp.out.lt (by have:=S5.out;have:=D8.out.2;unfold br;omega) (by have:=YM.out;have:=D8.out.2;unfold br;omega) ho.out he.out hb.out hz.out hv.out;have Am:=ae YN;clear HU HOW ho he hb hz hv hBs YN)
     go_wp2_with fail
     go_meet
     exact ⟨_,_,_,Or.inr ⟨rfl,hlt⟩,Am.out⟩
  case rest=>
   obtain ⟨la,lc,ls,YO,hU⟩:=hcut;generalize wc=WC at*;clear HU kp HB;have HU:=ae hU;have La:=ae YO
   clear hU YO;go_wp2_with fail
   refine (eQ.out WC 2 HU.out.ext HU.out.tape (by decide) (by decide)).mono ?_;rintro e W5 ⟨q,rfl,G4,hT,hx⟩;replace HU:=ae (HU.out.next hT hx);clear hT hx G4;go_upto_if 41 with fail
   go_cut [] (fun wx=> ∃(cr:Bool) (ma:Option Addr) (mc:Nat) (ms:List bH),(cr=false→ms= [])∧iT ms nu∧bP wx 3 ma mc (gK ms)∧Fr V.heap.size ma∧(∀p,ma=some p→p.block≠R∧p.block<wx.heap.size)∧OW V T R X a c l (⟨aL 111 i,la,lc,ls,cr,ma,mc,ms⟩:bI) wx)
   case first=>
    rcases Bool.eq_false_or_eq_true (q==1)with hq|hq
    ·as_aux_lemma=>
      have c2:=HU.out.out.cl 2 (.bool false) rfl;have f2:=HU.out.out.frozen 2;have YP:Hid (OW V T R X a c l (⟨aL 111 i,la,lc,ls,true,none,0,[]⟩:bI) (W5.setCell ⟨X,2,none⟩ (.bool true))):=HU.out.set 2 (.bool true) _ rfl HU.out.lines HU.out.lf;go_upto_region 7 with fail
      clear c2 f2 HU;have HU:=YP;clear YP;generalize (W5.setCell ⟨X,2,none⟩ (.bool true))=W6 at*;go_wp2_with fail
      rw [hq];clear hq;go_loopw [11] (fun uv wr=> ∃(u:Nat) (ms:List bH) (ma:Option Addr) (mc:Nat),u≤nu∧iT ms u∧aH wr W6.heap.size 140 3 (.slice ma ms.length mc) (gK ms)∧OW V T R X a c l (⟨aL 111 i,la,lc,ls,true,ma,mc,ms⟩:bI) wr∧W6.heap.size≤wr.heap.size∧uv= .int .i64 (u:Int)) (fun uv _=>nu-(intOf uv).toNat)
      case atStart=>exact ⟨0,[],none,0,Nat.zero_le _,⟨fun m hm=>absurd hm (by simp),rfl,Nat.zero_le _⟩,aH.nil _ _ _ _,HU.out,Nat.le_refl _,rfl⟩
      case round=>
       have Bw:Hid (T<W6.heap.size∧X<W6.heap.size∧R<W6.heap.size∧V.heap.size≤W6.heap.size):=⟨HU.out.tape.lt,HU.out.out.lt,HU.out.res.lt,HU.out.ext.size⟩;have HLF:Hid (∀p,la=some p→p.block<W6.heap.size):=fun p hp=>(HU.out.lf p hp).2.2.2.2;obtain ⟨u,ms,ma,mc,hu,Re,hown,hU,hD,rfl⟩:=hrel;clear HU;have HU:=ae hU;have HM:=ae Re;have HO:=ae hown;have HD:=ae hD
       clear hU Re hown hD;by_cases hlt:u<nu
       ·have bi:(u:Int)<(nu:Int):=by omega
        go_wp2_with fail
        refine (eQ.out wr 2 HU.out.ext HU.out.tape (by decide) (by decide)).mono ?_;rintro e W7 ⟨y,rfl,Bz,hT,hx⟩;have G5:Hid (W6.heap.size≤W7.heap.size):=Nat.le_trans HD.out hx.size;have zn:=ae (HU.out.next hT hx);have IU:=ae (HO.out.but hx Bw.out.1);clear hT hx Bz HU HO HD;have Xv:IntKind.i64.wrap ((u:Int)+1)=((u+1:Nat):Int):=by rw [IntKind.wrap_i64];have:=IQ.out;omega
        rcases Bool.eq_false_or_eq_true (y==1)with hy|hy
        ·go_upto_region 11 with fail
         refine ay (fun w'=>True) (fun w'=>w'.cell? ⟨X,3,none⟩=some (.slice ma ms.length mc)) (fun i=>i==11) (by kernel_rfl) (trivial) ((zn.out.out.cell 3).trans rfl) (fun ar ah=> ?_);refine av 0 (.pointer (some ⟨X,3,none⟩)) rfl ar ah ?_;simp only [sS];refine cK (i:=1) (v:= .slice ma ms.length mc) rfl (by kernel_rfl) (by kernel_rfl) (by kernel_rfl) (by kernel_rfl) (by kernel_rfl) (by kernel_rfl) (fun _ _ _ h=>h) (Or.inl ⟨by rfl,fun w hSw=>by(obtain ⟨hSw,qA⟩:=hSw;have e0:=hSw;have d0:=qA;go_simp)⟩) ar ah ?_;try simp only [sS]
         refine av 2 (.int .i64 (u:Int)) rfl ar ah ?_;simp only [sS];refine av 3 (.pointer (some ⟨T,0,none⟩)) rfl ar ah ?_;simp only [sS];refine av 5 (.pointer (some ⟨T,0,none⟩)) rfl ar ah ?_;simp only [sS];replace zn:=ae (zn.out.grow (Ext.refl W7).drew);replace IU:=ae (IU.out.ext (Ext.refl W7).drew);replace G5:Hid (W6.heap.size≤W7.drew.heap.size):=G5.out;generalize W7.drew=W8 at*;refine cG 4 rfl (fun Kc hK=> ?_);go_simp;refine (eQ.out W8 8 zn.out.ext zn.out.tape (by decide) (by decide)).mono ?_;rintro e W9 ⟨up,rfl,Rf,hT,hx⟩;replace zn:=ae (zn.out.next hT hx);replace IU:=ae (IU.out.but hx Bw.out.1);replace G5:Hid (W6.heap.size≤W9.heap.size):=Nat.le_trans G5.out hx.size;have VD:=ae Rf;clear hT hx Rf;refine hK.out _ _ (trivial) ((zn.out.out.cell 3).trans rfl) (fun ar ah=> ?_);clear hK Kc;try simp only [sS]
         refine cG 6 rfl (fun Kc hK=> ?_);go_simp;refine (eQ.out W9 8 zn.out.ext zn.out.tape (by decide) (by decide)).mono ?_;rintro e jG ⟨dn,rfl,Rg,hT,hx⟩;replace zn:=ae (zn.out.next hT hx);replace IU:=ae (IU.out.but hx Bw.out.1);replace G5:Hid (W6.heap.size≤jG.heap.size):=Nat.le_trans G5.out hx.size;have VE:=ae Rg;clear hT hx Rg;refine hK.out _ _ (trivial) ((zn.out.out.cell 3).trans rfl) (fun ar ah=> ?_);clear hK Kc;try simp only [sS]
         refine av 7 (.agg #[.int .i64 (u:Int),i64 up,i64 dn]) rfl ar ah ?_;simp only [sS];have JT:=(Ext.refl jG).alloc (.cells #[i64 (u:Int),i64 up,i64 dn] 140);refine cG 8 rfl (fun Kc hK=> ?_);go_simp;refine hK.out _ _ (trivial) ((((zn.out.grow JT).out.cell 3).trans rfl)) (fun ar ah=> ?_);clear hK Kc;try simp only [sS]
         have HOW:Hid ((jG.alloc (.cells #[i64 (u:Int),i64 up,i64 dn] 140)).ownsRow W6.heap.size 140 3 (.slice ma ms.length mc) ms.length (gK ms).flatten):=by
             have h5:=(IU.out.ext JT).own;rw [jl]at h5;exact h5
         have Mt:ms.length≤1000:=by have:=HM.out.len;have:=IQ.out;omega
         have yv:(jG.alloc (.cells #[i64 (u:Int),i64 up,i64 dn] 140)).heap.size=jG.heap.size+1:=by simp
         refine cG 9 rfl (fun Kc hK=> ?_);rw [if_pos (by rfl)];refine fI _ (.tmp 52) (.tmp 59) 85 rfl W6.heap.size 140 (.agg #[i64 0,i64 0,i64 0]) 3 24 Tryz.underlying85 Tryz.info_move rfl (by decide) (.slice ma ms.length mc) ms.length (gK ms).flatten rfl ?c1 (some ⟨jG.heap.size,0,none⟩) 1 1 [i64 (u:Int),i64 up,i64 dn] rfl rfl ?c2 ?c3 ?c4 ?c5 (by decide) ?c6 ?c7 (by decide)
         case c1=>exact HOW.out
         case c2=>exact fun _=>⟨_,rfl,cC jG 140 [i64 (u:Int),i64 up,i64 dn]⟩
         case c3=>intro z hz;simp only [List.mem_cons,List.not_mem_nil,or_false]at hz;rcases hz with rfl|rfl|rfl<;>rfl
         case c4=>intro e;cases e
         case c5=>omega
         case c6=>rw [yv];have:=G5.out;omega
         intro v1 w5 ho he hb hz hv;obtain ⟨Ak,Al,rfl⟩:=fc ho.out;obtain ⟨K,M_,-,hKx⟩:=gS (base:=W6.heap.size) (v:= .slice ma ms.length mc) (by rw [yv];have:=G5.out;omega) (fun k e=>(HOW.out.lt k e).1) he.out hb.out hz.out;have Na:Hid (OW V T R X a c l (⟨aL 111 i,la,lc,ls,true,ma,mc,ms⟩:bI) w5):=(zn.out.grow JT).but hKx (by have:=Bw.out;omega) (by have:=Bw.out;omega) (by have:=Bw.out;omega) (fun p hp=>by have:=HLF.out p hp;omega);obtain ⟨G6,JU⟩: ∃G6,G6=ms++ [(⟨(u:Int),up,dn⟩:bH)]:=⟨_,rfl⟩;have hl2:ms.length+1=G6.length:=by rw [JU,List.length_append];rfl
         have VF:Hid (aH w5 W6.heap.size 140 3 (.slice Ak (ms.length+1) Al) (gK G6)):=by
             have h5:=(IU.out.ext JT).snoc (w':=w5) (r:= [i64 (u:Int),i64 up,i64 dn]) rfl (by rw [jl];exact ho.out);have h6:=uT ms ⟨(u:Int),up,dn⟩;show aH _ _ _ _ _ _;rw [JU,h6];exact h5
         have U7:Hid (iT G6 (u+1)):=by rw [JU];exact HM.out.snoc VD.out VE.out
         have YQ:Hid (W6.heap.size≤w5.heap.size):=by have:=hz.out;have:=G5.out;rw [yv]at*;show _≤_;omega
         rw [hl2]at VF;rw [hl2];clear JU hl2 ho he hb hz hv M_ hKx HOW Mt yv JT IU zn G5;refine hK.out _ _ (trivial) ((Na.out.out.cell 3).trans rfl) (fun ar ah=> ?_);clear hK Kc;try simp only [sS]
         refine av 10 (.pointer (some ⟨X,3,none⟩)) rfl ar ah ?_;simp only [sS];have c3:=Na.out.out.cl 3 (.slice ma ms.length mc) rfl;have f3:=Na.out.out.frozen 3;refine aZ (rs:= [11]) (by kernel_rfl) (by simp) ?_;refine aD.late rfl (by kernel_rfl) (fun Kc hK=> ?_) aD.nil;go_simp;refine hK.out _ _ (trivial) (fun ar=> ?_);clear hK Kc;try simp only [sS]
         refine ax (by kernel_rfl) ?_ _;clear ar c3 f3;have HU9:Hid (OW V T R X a c l (⟨aL 111 i,la,lc,ls,true,Ak,Al,G6⟩:bI) (w5.setCell ⟨X,3,none⟩ (.slice Ak G6.length Al))):=Na.out.set 3 _ _ rfl Na.out.lines Na.out.lf;have hx3:=((ak.refl X w5).et (o:=3) (v:= .slice Ak G6.length Al));have HO9:=ae (VF.out.but hx3 Bw.out.2.1);have HD9:Hid (W6.heap.size≤(w5.setCell ⟨X,3,none⟩ (.slice Ak G6.length Al)).heap.size):=Nat.le_trans YQ.out hx3.size;clear hx3 Na VF YQ;generalize (w5.setCell ⟨X,3,none⟩ (.slice Ak G6.length Al))=EI at*;go_wp2_with fail
         exact ⟨⟨u+1,G6,Ak,Al,by omega,U7.out,HO9.out,HU9.out,HD9.out,rfl⟩,by show nu-(((u+1:Nat):Int)).toNat<nu-((u:Int)).toNat;omega⟩
        ·go_wp2_with fail
         exact ⟨⟨u+1,ms,ma,mc,by omega,HM.out.next,IU.out,zn.out,G5.out,rfl⟩,by show nu-(((u+1:Nat):Int)).toNat<nu-((u:Int)).toNat;omega⟩
       ·obtain rfl:u=nu:=by omega
        go_wp2_with fail
        go_meet
        have Pf: ∀p,ma=some p→p.block<wr.heap.size:=fun p hp=>(HO.out.own.lt p.block (by rw [hp];rfl)).2;obtain ⟨ra,rc,oN,tM,Bx⟩:=HO.out.recs (by decide);rw [jl]at oN;cases oN
        exact ⟨true,_,_,ms,fun h=>(by cases h),HM.out,tM,Bx.mono Bw.out.2.2.2,fun p hp=>⟨Bx.ne Bw.out.2.2.1 p hp,Pf p hp⟩,HU.out⟩
    ·as_aux_lemma=>
      go_wp2_with fail
      go_meet
      exact ⟨false,none,0,[],fun _=>rfl,⟨fun m hm=>absurd hm (by simp),rfl,Nat.zero_le _⟩,⟨Nat.le_refl _,by decide,fun i hi=>absurd hi (Nat.not_lt_zero _)⟩,Fr.none _,(fun p hp=>by cases hp),HU.out⟩
   case rest=>
    obtain ⟨cr,ma,mc,ms,Jv,Re,Tl,jU,hne,hU⟩:=hcut;generalize wc=WD at*;clear HU;have HU:=ae hU;have HM:=ae (And.intro Jv (And.intro Re (And.intro Tl (And.intro jU hne))))
    clear hU Jv Re Tl jU hne;go_upto_region 12 with fail
    as_aux_lemma=>
     obtain ⟨xf,M9⟩: ∃xf,xf=(⟨aL 111 i,la,lc,ls,cr,ma,mc,ms⟩:bI):=⟨_,rfl⟩
     have HF:Hid (vV xf i nl nu∧xf.ma=ma∧xf.mc=mc∧xf.moves=ms):=by
      have h1:=S5.out;have h2:=YM.out
      rw [M9];refine ⟨⟨rfl,?_,?_,?_,HM.out.2.1,HM.out.1⟩,rfl,rfl,rfl⟩
      ·rcases La.out with rfl|⟨rfl,-⟩
       ·exact Or.inl rfl
       ·exact Or.inr rfl
      ·intro z hz
       rcases La.out with rfl|⟨rfl,-⟩
       ·simp only [List.mem_cons,List.not_mem_nil,or_false]at hz;subst hz;exact h1
       ·simp only [List.mem_cons,List.not_mem_nil,or_false]at hz
        rcases hz with rfl|rfl
        ·exact h1
        ·exact h2
      ·rcases La.out with rfl|⟨rfl,h5⟩
       ·rfl
       ·show gG [z0,z1]=true
        rw [jB];intro j Qv hj2;have:j=1:=by simp only [List.length_cons,List.length_nil]at hj2;omega
        subst this;exact h5
     rw [←M9]at HU;clear M9;have xk: ∀j v,xf.cells[j]?=some v→WD.cell? ((⟨X,0,none⟩:Addr).add j)=some v:=fun j v hj=>by rw [dP,HU.out.out.cell j];exact hj
     go_wp2_with (first|(refine aQ rfl 87 _ rfl ⟨X,0,none⟩ rfl xf.cells _ xk rfl rfl rfl ?_)|(refine bF rfl 87 _ _ rfl R pG.cells xf.cells HU.out.res rfl rfl (by kernel_rfl) rfl rfl ?_;intro xh jP dO))
     have uS:=ae (HU.out.ext.over dO xP.out);have Bu:=ae (HU.out.tape.but dO (fun e=>pA e.symm))
     have Bv:Hid (aA xh xf.la xf.lc xf.lines):=HU.out.lines.fS dO (fun p hp=>(HU.out.lf p hp).2.2.1)
     have wI:Hid (bP xh 3 xf.ma xf.mc (xf.moves.map bH.cells)):=by
      have h5:=HM.out.2.2.1.but dO (fun p hp=>(HM.out.2.2.2.2 p hp).1);rw [HF.out.2.1,HF.out.2.2.1,HF.out.2.2.2];exact h5
     have D5:Hid (Fr V.heap.size xf.la∧Fr V.heap.size xf.ma∧ ∀p,xf.ma=some p→p.block<xh.heap.size):=⟨fun p hp=>(HU.out.lf p hp).1,by rw [HF.out.2.1];exact HM.out.2.2.2.1,fun p hp=>Nat.lt_of_lt_of_le (HM.out.2.2.2.2 p (by rw [←HF.out.2.1];exact hp)).2 dO.size⟩;exact bodyPost_ret (v:= .agg xf.cells.toArray) (fo 8 _ rfl rfl jP rfl rfl rfl) rfl ⟨xf,rfl,HF.out.1,Bv.out,D5.out.1,wI.out,D5.out.2.1,D5.out.2.2,Bu.out,uS.out⟩
def fg (P:Nat→Prop) (a:Option Addr):Prop:= ∀p,a=some p→P p.block
theorem fg.none (P:Nat→Prop):fg P Option.none:=fun _ h=>by cases h
theorem fg.mono {P Q:Nat→Prop} {a:Option Addr} (h:fg P a) (hp: ∀b,P b→Q b):fg Q a:=fun p e=>hp _ (h p e)
structure dv (P:Nat→Prop) (c:aq):Prop where
 az:fg P c.ra
 au:fg P c.ba
 cX: ∀b∈c.au,fg P b.da
 lines:fg P c.la
 line: ∀l∈c.lines,fg P l.aa
 aj:fg P c.ua
 unit: ∀u∈c.aj,fg P u.sa∧fg P u.aa
 stores:fg P c.sa
 aN:fg P c.ta
 tie: ∀t∈c.aN,fg P t.ia∧fg P t.ea∧fg P t.pa
 outs:fg P c.oa
 out: ∀o∈c.outs,fg P o.la∧fg P o.ma
theorem dv.mono {P Q:Nat→Prop} {c:aq} (h:dv P c) (hp: ∀b,P b→Q b):dv Q c:=
 ⟨h.az.mono hp,h.au.mono hp,fun b hb=>(h.cX b hb).mono hp,h.lines.mono hp,fun l hl=>(h.line l hl).mono hp,h.aj.mono hp,fun u hu=>⟨(h.unit u hu).1.mono hp,(h.unit u hu).2.mono hp⟩,h.stores.mono hp,h.aN.mono hp,
   fun t ht=>⟨(h.tie t ht).1.mono hp,(h.tie t ht).2.1.mono hp,(h.tie t ht).2.2.mono hp⟩,h.outs.mono hp,fun o ho=>⟨(h.out o ho).1.mono hp,(h.out o ho).2.mono hp⟩⟩
theorem aT.but {w w':World} {c:aq} {K:Nat} (h:aT w c) (x:ak K w w') (hb:dv (fun b=>b≠K) c):aT w' c:=
 ⟨h.hours,h.az.fS x hb.az,h.au.but x hb.au,fun b hm=>⟨(h.cX b hm).1,(h.cX b hm).2.1.fS x (hb.cX b hm),(h.cX b hm).2.2⟩,h.lines.but x hb.lines,fun l hl=>⟨(h.line l hl).1,(h.line l hl).2.1.fS x (hb.line l hl),(h.line l hl).2.2⟩,
   h.aj.but x hb.aj,fun u hu=>⟨(h.unit u hu).1,(h.unit u hu).2.1.fS x (hb.unit u hu).2,(h.unit u hu).2.2.1.but x (hb.unit u hu).1,(h.unit u hu).2.2.2⟩,h.stores.but x hb.stores,h.store,h.aN.but x hb.aN,
   fun t ht=>⟨(h.tie t ht).1,(h.tie t ht).2.1.fS x (hb.tie t ht).1,(h.tie t ht).2.2.1.fS x (hb.tie t ht).2.1,(h.tie t ht).2.2.2.1.fS x (hb.tie t ht).2.2,(h.tie t ht).2.2.2.2⟩,
   h.outs.but x hb.outs,fun o ho=>⟨(h.out o ho).1,(h.out o ho).2.1.fS x (hb.out o ho).1,(h.out o ho).2.2.1.but x (hb.out o ho).2,(h.out o ho).2.2.2⟩⟩
def jc:aq:=⟨0,none,0,[],none,0,[],none,0,[],none,0,[],none,0,[],none,0,[],none,0,[]⟩
structure CW (V:World) (T R X:Nat) (a:Option Addr) (c:Nat) (l:List Int) (cs:List Value) (x:aq) (W:World):Prop where
 tape:bn W T a c l
 bK:aG W X 32 cs
 res:aG W R 32 jc.cells
 ext:Ext V W
 case':aT W x
 bl:dv (fun b=>X<b∧b<W.heap.size) x
 pos:V.heap.size≤T∧V.heap.size≤R∧T≠R∧T<X∧R<X
theorem CW.next {V W W':World} {T R X:Nat} {a:Option Addr} {c:Nat} {l:List Int} {cs:List Value} {x:aq} (h:CW V T R X a c l cs x W) (hT:bn W' T a c l) (hx:ak T W W'):CW V T R X a c l cs x W':=by
 have hp:=h.pos;have hs:=hx.size;exact ⟨hT,h.bK.but hx (by omega),h.res.but hx (by omega),hx.ext h.ext (by omega),h.case'.but hx (h.bl.mono fun b hb=>by omega),h.bl.mono fun b hb=>by omega,h.pos⟩
theorem CW.grow {V W W':World} {T R X:Nat} {a:Option Addr} {c:Nat} {l:List Int} {cs:List Value} {x:aq} (h:CW V T R X a c l cs x W) (hx:Ext W W'):CW V T R X a c l cs x W':=h.next (h.tape.ext hx) (hx.but T)
theorem CW.but {V W W':World} {T R X K:Nat} {a:Option Addr} {c:Nat} {l:List Int} {cs:List Value} {x:aq} (h:CW V T R X a c l cs x W) (hx:ak K W W') (hK:X<K) (hb:dv (fun b=>b≠K) x):CW V T R X a c l cs x W':=by
 have hp:=h.pos;have hs:=hx.size;exact ⟨h.tape.but hx (by omega),h.bK.but hx (by omega),h.res.but hx (by omega),hx.ext h.ext (by omega),h.case'.but hx hb,h.bl.mono fun b hb=>by omega,h.pos⟩
theorem CW.set {V W:World} {T R X:Nat} {a:Option Addr} {c:Nat} {l:List Int} {cs:List Value} {x x':aq} (h:CW V T R X a c l cs x W) (j:Nat) (v:Value) (hc:aT W x') (hb:dv (fun b=>X<b∧b<W.heap.size) x'):CW V T R X a c l (cs.set j v) x' (W.setCell ⟨X,j,none⟩ v):=by
 have hp:=h.pos;have hx:=((ak.refl X W).et (o:=j) (v:=v));have hs:=hx.size;exact ⟨h.tape.but hx (by omega),h.bK.set j v,h.res.but hx (by omega),hx.ext h.ext (by omega),hc.but hx (hb.mono fun b hb=>by omega),hb.mono fun b hb=>by omega,h.pos⟩
structure gC (V:World) (T R X D:Nat) (a:Option Addr) (c:Nat) (l:List Int) (cs:List Value) (x0:aq) (e:TypeId) (m:Nat) (ga:Option Addr) (gc:Nat) (rows:List (List Value)) (si:List (Option Addr×Nat×List Int)) (sr:List (Option Addr×Nat×Nat×List (List Value))) (W:World):Prop where
 cw:CW V T R X a c l cs x0 W
 own:aH W D e m (.slice ga rows.length gc) rows
 si: ∀s∈si,aA W s.1 s.2.1 s.2.2∧ ∀p,s.1=some p→X<p.block∧p.block<W.heap.size∧ ∀q,ga=some q→p.block≠q.block
 sr: ∀s∈sr,bP W s.2.2.1 s.1 s.2.1 s.2.2.2∧ ∀p,s.1=some p→X<p.block∧p.block<W.heap.size∧ ∀q,ga=some q→p.block≠q.block
 old:dv (fun b=>b<D) x0
 size:D≤W.heap.size
 lo:X<D
theorem gC.next {V W W':World} {T R X D:Nat} {a:Option Addr} {c:Nat} {l:List Int} {cs:List Value} {x0:aq} {e:TypeId} {m:Nat} {ga:Option Addr} {gc:Nat} {rows:List (List Value)} {si:List (Option Addr×Nat×List Int)} {sr:List (Option Addr×Nat×Nat×List (List Value))}
 (h:gC V T R X D a c l cs x0 e m ga gc rows si sr W) (hT:bn W' T a c l) (hx:ak T W W'):gC V T R X D a c l cs x0 e m ga gc rows si sr W':=by
 have hp:=h.cw.pos;have hs:=hx.size;have zo:=h.lo;have hsz:=h.size
 refine ⟨h.cw.next hT hx,h.own.but hx (by omega),fun s hm=> ?_,fun s hm=> ?_,h.old,by omega,h.lo⟩
 ·obtain ⟨h1,h2⟩:=h.si s hm
  exact ⟨h1.fS hx (fun p e=>by have:=h2 p e;omega),fun p e=>by have h3:=h2 p e;exact ⟨h3.1,by omega,h3.2.2⟩⟩
 ·obtain ⟨h1,h2⟩:=h.sr s hm
  exact ⟨h1.but hx (fun p e=>by have:=h2 p e;omega),fun p e=>by have h3:=h2 p e;exact ⟨h3.1,by omega,h3.2.2⟩⟩
theorem gC.grow {V W W':World} {T R X D:Nat} {a:Option Addr} {c:Nat} {l:List Int} {cs:List Value} {x0:aq} {e:TypeId} {m:Nat} {ga:Option Addr} {gc:Nat} {rows:List (List Value)} {si:List (Option Addr×Nat×List Int)} {sr:List (Option Addr×Nat×Nat×List (List Value))}
 (h:gC V T R X D a c l cs x0 e m ga gc rows si sr W) (hx:Ext W W'):gC V T R X D a c l cs x0 e m ga gc rows si sr W':=h.next (h.cw.tape.ext hx) (hx.but T)
theorem gC.kR {V W:World} {T R X D:Nat} {a:Option Addr} {c:Nat} {l:List Int} {cs:List Value} {x0:aq} {e:TypeId} {m:Nat} {ga:Option Addr} {gc:Nat} {rows:List (List Value)} {si:List (Option Addr×Nat×List Int)} {sr:List (Option Addr×Nat×Nat×List (List Value))}
 (h:gC V T R X D a c l cs x0 e m ga gc rows si sr W): ∀q,ga=some q→D≤q.block∧q.block<W.heap.size:=fun q hq=>by
 have h1:=h.own.own.lt q.block (by rw [hq];rfl);exact h1
theorem gC.uU {V W W':World} {T R X D:Nat} {a:Option Addr} {c:Nat} {l:List Int} {cs:List Value} {x0:aq} {e:TypeId} {m:Nat} {ga:Option Addr} {gc:Nat} {rows:List (List Value)} {si:List (Option Addr×Nat×List Int)} {sr:List (Option Addr×Nat×Nat×List (List Value))}
 (h:gC V T R X D a c l cs x0 e m ga gc rows si sr W) {b:Option Addr} {k:Nat} {z:List Int} (hT:bn W' T a c l) (hx:ak T W W') (hi:aA W' b k z) (hf:Fr W.heap.size b) (hb: ∀p,b=some p→p.block<W'.heap.size):gC V T R X D a c l cs x0 e m ga gc rows (si++ [(b,k,z)]) sr W':=by
 have h':=h.next hT hx;refine {h' with si:=fun s hm=> ?_};rcases List.mem_append.1 hm with e1|e1
 ·exact h'.si s e1
 ·rw [List.mem_singleton]at e1;subst e1
  refine ⟨hi,fun p hp=> ?_⟩;replace hp:b=some p:=hp;have h1:=hf p hp;have h2:=h.lo;have h3:=h.size
  exact ⟨by omega,hb p hp,fun q hq=>by have:=(h.kR q hq).2;omega⟩
theorem gC.VG {V W W':World} {T R X D:Nat} {a:Option Addr} {c:Nat} {l:List Int} {cs:List Value} {x0:aq} {e:TypeId} {m:Nat} {ga:Option Addr} {gc:Nat} {rows:List (List Value)} {si:List (Option Addr×Nat×List Int)} {sr:List (Option Addr×Nat×Nat×List (List Value))}
 (h:gC V T R X D a c l cs x0 e m ga gc rows si sr W) {b:Option Addr} {k n:Nat} {z:List (List Value)} (hT:bn W' T a c l) (hx:ak T W W') (hi:bP W' n b k z) (hf:Fr W.heap.size b) (hb: ∀p,b=some p→p.block<W'.heap.size):gC V T R X D a c l cs x0 e m ga gc rows si (sr++ [(b,k,n,z)]) W':=by
 have h':=h.next hT hx;refine {h' with sr:=fun s hm=> ?_};rcases List.mem_append.1 hm with e1|e1
 ·exact h'.sr s e1
 ·rw [List.mem_singleton]at e1;subst e1
  refine ⟨hi,fun p hp=> ?_⟩;replace hp:b=some p:=hp;have h1:=hf p hp;have h2:=h.lo;have h3:=h.size
  exact ⟨by omega,hb p hp,fun q hq=>by have:=(h.kR q hq).2;omega⟩
theorem gC.push {V W w5:World} {T R X D:Nat} {a:Option Addr} {c:Nat} {l:List Int} {cs:List Value} {x0:aq} {e:TypeId} {m:Nat} {ga:Option Addr} {gc:Nat} {rows:List (List Value)} {si:List (Option Addr×Nat×List Int)} {sr:List (Option Addr×Nat×Nat×List (List Value))}
 (h:gC V T R X D a c l cs x0 e m ga gc rows si sr W) {r:List Value} {v1:Value} (j:Nat) (hr:r.length=m)
 (ho:w5.ownsRow D e m v1 (rows.length+1) (rows.flatten++r)) (he: ∀a0,Ext a0 W→a0.heap.size≤D→Ext a0 w5) (hb: ∀k,k<W.heap.size→some k≠Value.ownBlock (.slice ga rows.length gc)→w5.heap[k]?=W.heap[k]?) (hz:W.heap.size≤w5.heap.size)
 (hv:v1.ownBlock=Value.ownBlock (.slice ga rows.length gc)∨ ∃g,v1.ownBlock=some g∧W.heap.size≤g):
 ∃g2 k2,v1= .slice g2 (rows.length+1) k2∧gC V T R X D a c l cs x0 e m g2 k2 (rows++ [r]) si sr w5∧gC V T R X D a c l (cs.set j (.slice g2 (rows.length+1) k2)) x0 e m g2 k2 (rows++ [r]) si sr (w5.setCell ⟨X,j,none⟩ (.slice g2 (rows.length+1) k2)):=by
 obtain ⟨g2,k2,rfl⟩:=fc ho;have zo:=h.lo;have hsz:=h.size
 obtain ⟨K,M_,EZ,hKx⟩:=gS (base:=D) (v:= .slice ga rows.length gc) hsz (fun k q=>(h.own.own.lt k q).1) he hb hz
 have JV:K=W.heap.size∨ ∃q,ga=some q∧q.block=K:=by
  rcases EZ with q|q
  ·exact .inl q
  ·cases ga with
   |none=>cases q
   |some q'=>exact .inr ⟨q',rfl,by have e2:some q'.block=some K:=q;cases e2;rfl⟩
 have zq: ∀p:Addr,X<p.block∧p.block<W.heap.size∧(∀q,ga=some q→p.block≠q.block)→p.block≠K:=fun p hp=>by
  rcases JV with q|⟨q,q1,q2⟩
  ·omega
  ·have:=hp.2.2 q q1;omega
 have hg2: ∀q,g2=some q→(∃q0,ga=some q0∧q.block=q0.block)∨W.heap.size≤q.block:=fun q hq=>by
  subst hq;rcases hv with e1|⟨g,e1,e2⟩
  ·cases ga with
   |none=>cases e1
   |some q'=>exact .inl ⟨q',rfl,by have e3:some q.block=some q'.block:=e1;exact Option.some.inj e3⟩
  ·have e3:some q.block=some g:=e1
   cases e3;exact .inr e2
 have hs5:=hKx.size
 have P5:gC V T R X D a c l cs x0 e m g2 k2 (rows++ [r]) si sr w5:=by
  refine ⟨h.cw.but hKx (by omega) (h.old.mono fun b hb=>by omega),?_,fun s hm=> ?_,fun s hm=> ?_,h.old,by omega,h.lo⟩
  ·have h5:=h.own.snoc (w':=w5) hr ho
   rw [List.length_append];exact h5
  ·obtain ⟨h1,h2⟩:=h.si s hm
   refine ⟨h1.fS hKx (fun p q=>zq p (h2 p q)),fun p q=> ?_⟩;have h3:=h2 p q;refine ⟨h3.1,by omega,fun q' hq'=> ?_⟩;rcases hg2 q' hq' with⟨q0,h5,h6⟩|h5
   ·have:=h3.2.2 q0 h5;omega
   ·omega
  ·obtain ⟨h1,h2⟩:=h.sr s hm
   refine ⟨h1.but hKx (fun p q=>zq p (h2 p q)),fun p q=> ?_⟩;have h3:=h2 p q;refine ⟨h3.1,by omega,fun q' hq'=> ?_⟩;rcases hg2 q' hq' with⟨q0,h5,h6⟩|h5
   ·have:=h3.2.2 q0 h5;omega
   ·omega
 refine ⟨g2,k2,rfl,P5,?_⟩;have hx:=((ak.refl X w5).et (o:=j) (v:= .slice g2 (rows.length+1) k2));have Cn:=hx.size;refine ⟨P5.cw.set j _ P5.cw.case' P5.cw.bl,P5.own.but hx zo,fun s hm=> ?_,fun s hm=> ?_,h.old,by have:=P5.size;omega,h.lo⟩
 ·obtain ⟨h1,h2⟩:=P5.si s hm
  exact ⟨h1.fS hx (fun p q=>by have:=h2 p q;omega),fun p q=>by have h3:=h2 p q;exact ⟨h3.1,by omega,h3.2.2⟩⟩
 ·obtain ⟨h1,h2⟩:=P5.sr s hm
  exact ⟨h1.but hx (fun p q=>by have:=h2 p q;omega),fun p q=>by have h3:=h2 p q;exact ⟨h3.1,by omega,h3.2.2⟩⟩
theorem CO {W W':World} {D K m n gc:Nat} {e:TypeId} {ga:Option Addr} {rows:List (List Value)} (h:aH W D e m (.slice ga n gc) rows) (hx:ak K W W') (hg: ∀q,ga=some q→q.block≠K):aH W' D e m (.slice ga n gc) rows:=by
 refine ⟨⟨h.own.1,?_⟩,h.len⟩;rcases h.own.2 with h0|⟨g,cap,cur,hv,hb,hc,hr⟩
 ·exact .inl h0
 ·refine .inr ⟨g,cap,cur,hv,hb,?_,hr⟩
  have hne:g≠K:=by
   simp only [Value.slice.injEq]at hv;exact hg _ hv.1
  rw [hx.block g (Array.getElem?_eq_some_iff.1 hc).1 hne];exact hc
theorem gC.but {V W W':World} {T R X D K:Nat} {a:Option Addr} {c:Nat} {l:List Int} {cs:List Value} {x0:aq} {e:TypeId} {m:Nat} {ga:Option Addr} {gc:Nat} {rows:List (List Value)} {si:List (Option Addr×Nat×List Int)} {sr:List (Option Addr×Nat×Nat×List (List Value))}
 (h:gC V T R X D a c l cs x0 e m ga gc rows si sr W) (hx:ak K W W') (hK:D≤K) (hg: ∀q,ga=some q→q.block≠K) (hi: ∀s∈si,∀p,s.1=some p→p.block≠K) (hr: ∀s∈sr,∀p,s.1=some p→p.block≠K):gC V T R X D a c l cs x0 e m ga gc rows si sr W':=by
 have zo:=h.lo;have hsz:=h.size;have hs:=hx.size
 refine ⟨h.cw.but hx (by omega) (h.old.mono fun b hb=>by omega),CO h.own hx hg,fun s hm=> ?_,fun s hm=> ?_,h.old,by omega,h.lo⟩
 ·obtain ⟨h1,h2⟩:=h.si s hm
  exact ⟨h1.fS hx (hi s hm),fun p q=>by have h3:=h2 p q;exact ⟨h3.1,by omega,h3.2.2⟩⟩
 ·obtain ⟨h1,h2⟩:=h.sr s hm
  exact ⟨h1.but hx (hr s hm),fun p q=>by have h3:=h2 p q;exact ⟨h3.1,by omega,h3.2.2⟩⟩
theorem gC.far {V W:World} {T R X D:Nat} {a:Option Addr} {c:Nat} {l:List Int} {cs:List Value} {x0:aq} {e:TypeId} {m:Nat} {ga:Option Addr} {gc:Nat} {rows:List (List Value)} {si:List (Option Addr×Nat×List Int)} {sr:List (Option Addr×Nat×Nat×List (List Value))}
 (h:gC V T R X D a c l cs x0 e m ga gc rows si sr W):(∀q,ga=some q→q.block≠W.heap.size)∧(∀s∈si,∀p,s.1=some p→p.block≠W.heap.size)∧(∀s∈sr,∀p,s.1=some p→p.block≠W.heap.size):=
 ⟨fun q hq=>by have:=(h.kR q hq).2;omega,fun s hm p hp=>by have:=((h.si s hm).2 p hp).2.1;omega,fun s hm p hp=>by have:=((h.sr s hm).2 p hp).2.1;omega⟩
theorem D9 {V W:World} {T R X D:Nat} {a:Option Addr} {c:Nat} {l:List Int} {cs:List Value} {x0:aq} {ga:Option Addr} {gc:Nat} {xs:List aS}
 (h:gC V T R X D a c l cs x0 78 12 ga gc (xs.map aS.cells) (xs.map fun x=>(x.aa,x.ac,x.away)) [] W) (hm: ∀x∈xs,x.name.size≤maxLen∧fp [x.cd,x.ie,x.rn,x.rd,x.iH,x.kq,x.iO,x.lg,x.cf,x.gw]):
 CW V T R X a c l cs {x0 with la:=ga,lc:=gc,lines:=xs} W:=by
 obtain ⟨ra,rc,oN,tM,Bx⟩:=h.own.recs (by decide);simp only [Value.slice.injEq,true_and]at oN;obtain ⟨rfl,rfl⟩:=oN;have zo:=h.lo;refine {h.cw with case':={h.cw.case' with lines:=tM,line:=fun b hb=> ?_},bl:={h.cw.bl with lines:=fun p hp=> ?_,line:=fun b hb p hp=> ?_}}
 ·exact ⟨(hm b hb).1,(h.si _ (List.mem_map.2 ⟨_,hb,rfl⟩)).1,(hm b hb).2⟩
 ·have:=h.kR p hp
  show X<p.block∧p.block<W.heap.size;omega
 ·have h2:=(h.si _ (List.mem_map.2 ⟨_,hb,rfl⟩)).2 p hp
  exact ⟨h2.1,h2.2.1⟩
theorem D_ {V W:World} {T R X D:Nat} {a:Option Addr} {c:Nat} {l:List Int} {cs:List Value} {x0:aq} {ga:Option Addr} {gc:Nat} {xs:List aF}
 (h:gC V T R X D a c l cs x0 67 22 ga gc (xs.map aF.cells) (xs.map fun x=>(x.aa,x.ac,x.away)) (xs.map fun x=>(x.sa,x.sc,2,x.aI.map cL.cells)) W) (hu: ∀w,aT w x0→bP w 22 ga gc (xs.map aF.cells)→(∀x∈xs,aA w x.aa x.ac x.away∧bP w 2 x.sa x.sc (x.aI.map cL.cells))→aT w {x0 with ua:=ga,uc:=gc,aj:=xs}):
 CW V T R X a c l cs {x0 with ua:=ga,uc:=gc,aj:=xs} W:=by
 obtain ⟨ra,rc,oN,tM,Bx⟩:=h.own.recs (by decide);simp only [Value.slice.injEq,true_and]at oN;obtain ⟨rfl,rfl⟩:=oN;have zo:=h.lo;have hs:=fun b (hb:b∈xs)=>h.si _ (List.mem_map.2 ⟨b,hb,rfl⟩);have hr:=fun b (hb:b∈xs)=>h.sr _ (List.mem_map.2 ⟨b,hb,rfl⟩);refine {h.cw with case':=hu W h.cw.case' tM (fun x hx=>⟨(hs x hx).1,(hr x hx).1⟩),bl:={h.cw.bl with aj:=fun p hp=> ?_,unit:=fun b hb=>⟨fun p hp=> ?_,fun p hp=> ?_⟩}}
 ·have:=h.kR p hp
  show X<p.block∧p.block<W.heap.size;omega
 ·have h2:=(hr b hb).2 p hp
  exact ⟨h2.1,h2.2.1⟩
 ·have h2:=(hs b hb).2 p hp
  exact ⟨h2.1,h2.2.1⟩
theorem tU: ∀(cs:List Value) (k:Nat) (arr:Array Value),k+cs.length≤arr.size→
 ((cs.zipIdx k).foldl (fun(a:Array Value) (p:Value×Nat)=>a.setIfInBounds (0+p.2) p.1) arr).toList=arr.toList.take k++cs++arr.toList.drop (k+cs.length)
 | [],k,arr,h=>by simp
 |c::cs,k,arr,h=>by
  rw [List.zipIdx_cons,List.foldl_cons,tU cs (k+1) _ (by simp at h⊢;omega)];have hk:k<arr.toList.length:=by simp at h⊢;omega
  simp only [Nat.zero_add,Array.toList_setIfInBounds,List.length_cons];rw [List.take_succ_eq_append_getElem (by rw [List.length_set];exact hk),List.getElem_set_self,List.take_set_of_le (Nat.le_refl _),List.drop_set_of_lt (by omega)];simp only [List.append_assoc,List.cons_append,List.nil_append];rw [show k+1+cs.length=k+(cs.length+1) by omega]
section
variable{P:Program}
theorem G7 (size:Nat) (cs:List Value) (arr:Array Value) (hc:cs.length=size) (ha:arr.size=size):Instr.fill (fun i=>some (i*size,size)) arr [(0,.agg cs.toArray)]=some cs.toArray:=by
 have h1:=tU cs 0 arr (by omega);have h2:arr.toList.drop (0+cs.length)= []:=List.drop_eq_nil_of_le (by simp;omega);rw [h2]at h1;simp only [List.take_zero,List.nil_append,List.append_nil]at h1
 have h3:((Value.agg cs.toArray).cells.zipIdx.foldl (fun(a:Array Value) (p:Value×Nat)=>a.setIfInBounds (0+p.2) p.1) arr)=cs.toArray:=by
  show(cs.toArray.zipIdx.foldl _ arr)=_;rw [show cs.toArray.zipIdx=(cs.zipIdx).toArray by simp,List.foldl_toArray];apply Array.toList_inj.1;rw [h1]
 have h4:(Value.agg cs.toArray).cells.size=size:=by show cs.toArray.size=size;simpa using hc
 unfold Instr.fill;simp only [Nat.zero_mul,h4,ha,ne_eq,not_true_eq_false,decide_false,Nat.zero_add,Nat.lt_irrefl,gt_iff_lt,Bool.or_self,Bool.false_eq_true,if_false];unfold Instr.fill;simp only [Nat.zero_add]at h3;simpa using h3
theorem oz (w:World) (t e:TypeId) (z:Value) (size bytes:Nat) (ht:P.underlying t=some (.slice e)) (iX:(P.info? e).map (fun i=>(i.zero,i.size,i.bytes))=some (some z,size,bytes)) (hsz:0<size) (hs:size≤100) (cs:List Value) (hc:cs.length=size):
 (Instr.buildSlice t 1 #[(0,.agg cs.toArray)]).run P w= .ok (.slice (some ⟨w.heap.size,0,none⟩) 1 1) (w.alloc (.cells cs.toArray e)):=by
 obtain ⟨i,hi,hz,hsize,hby⟩:=info_parts iX;have hf:=G7 size cs ((Array.range size).map (z.cells[· % z.cells.size]!)) hc (by simp);have h1: ¬(16777216<size):=by omega
 have h2: ¬(size=0):=by omega
 unfold Instr.buildSlice;simp [run_underlying ht,sizeOf,typeInfo,zeroValue,newRow,newObj,hi,hz,hsize,Sem.run_bind,Result.andThen];rw [if_neg h1,if_neg h2,hf];simp;rfl
theorem cH {o:Oper} {a:Act} {w:World} {Q:Exit→Act→World→Prop} {K:Act→World→Prop} (t:TypeId) (x:Operand) (ho:o.op= .buildSlice t 1 #[(0,x)])
 (e:TypeId) (z:Value) (size bytes:Nat) (ht:P.underlying t=some (.slice e)) (iX:(P.info? e).map (fun i=>(i.zero,i.size,i.bytes))=some (some z,size,bytes)) (hsz:0<size) (hs:size≤100) (cs:List Value) (hx:a.eval x= .agg cs.toArray) (hc:cs.length=size)
 (h: ∀w',aG w' w.heap.size e cs→Ext w w'→K (a.put o.dst (.slice (some ⟨w.heap.size,0,none⟩) 1 1)) w'):Oper.wp P o a w K Q:=by
 have hr:=oz (P:=P) w t e z size bytes ht iX hsz hs cs hc;unfold Oper.wp execOp;simp only [ho,Sem.run_bind,List.map_toArray,List.map_cons,List.map_nil,hx,hr,Result.andThen_ok,Sem.run_pure];exact h _ (aG.alloc _ _ _) ((Ext.refl _).alloc _)
theorem gL {ops:Array Oper} {rest:List Oper} {o:Oper} {a:Act} {w:World} {Q:Exit→Act→World→Prop} (hgd:o.guard=none) (t:TypeId) (x:Operand) (ho:o.op= .buildSlice t 1 #[(0,x)])
 (e:TypeId) (z:Value) (size bytes:Nat) (ht:P.underlying t=some (.slice e)) (iX:(P.info? e).map (fun i=>(i.zero,i.size,i.bytes))=some (some z,size,bytes)) (hsz:0<size) (hs:size≤100) (cs:List Value) (hx:a.eval x= .agg cs.toArray) (hc:cs.length=size)
 (h: ∀w',aG w' w.heap.size e cs→Ext w w'→wpList P ops Q rest (a.put o.dst (.slice (some ⟨w.heap.size,0,none⟩) 1 1)) w'):wpList P ops Q (o::rest) a w:=
 wpList_plain hgd fun K hK=>cH t x ho e z size bytes ht iX hsz hs cs hx hc fun w' h1 h2=>hK _ _ (h w' h1 h2)
theorem pH {o:Oper} {a:Act} {w:World} {K:Act→World→Prop} {Q:Exit→Act→World→Prop} (t:TypeId) (parts:Array (Nat×Operand)) (ho:o.op= .build t parts) (vals:List (Nat×Value)) (cs:List Value)
 (hv:(parts.map fun(i,x)=>(i,a.eval x)).toList=vals) (hb:P.built t vals=some cs.toArray) (h:K (a.put o.dst (.agg cs.toArray)) w):o.wp P a w K Q:=
 wp_build t parts ho (by rw [hv,hb];rfl) (by rw [hv,hb];exact h)
end
structure QW (V:World) (T B D:Nat) (a:Option Addr) (c:Nat) (l:List Int) (cc:List Value) (ga:Option Addr) (gc:Nat) (rows:List (List Value)) (si:List (Option Addr×Nat×List Int)) (W:World):Prop where
 tape:bn W T a c l
 box:aG W B 32 cc
 ext:Ext V W
 own:aH W D 24 6 (.slice ga rows.length gc) rows
 si: ∀s∈si,aA W s.1 s.2.1 s.2.2∧ ∀p,s.1=some p→D≤p.block∧p.block<W.heap.size∧ ∀q,ga=some q→p.block≠q.block
 pos:V.heap.size≤T∧V.heap.size≤B∧T≠B∧T<D∧B<D∧D≤W.heap.size
theorem QW.kR {V W:World} {T B D:Nat} {a:Option Addr} {c:Nat} {l:List Int} {cc:List Value} {ga:Option Addr} {gc:Nat} {rows:List (List Value)} {si:List (Option Addr×Nat×List Int)} (h:QW V T B D a c l cc ga gc rows si W): ∀q,ga=some q→D≤q.block∧q.block<W.heap.size:=fun q hq=>h.own.own.lt q.block (by rw [hq];rfl)
theorem QW.next {V W W':World} {T B D:Nat} {a:Option Addr} {c:Nat} {l:List Int} {cc:List Value} {ga:Option Addr} {gc:Nat} {rows:List (List Value)} {si:List (Option Addr×Nat×List Int)} (h:QW V T B D a c l cc ga gc rows si W) (hT:bn W' T a c l) (hx:ak T W W'):QW V T B D a c l cc ga gc rows si W':=by
 have hp:=h.pos;have hs:=hx.size
 refine ⟨hT,h.box.but hx (by omega),hx.ext h.ext (by omega),h.own.but hx (by omega),fun s hm=> ?_,by omega⟩;obtain ⟨h1,h2⟩:=h.si s hm;exact ⟨h1.fS hx (fun p e=>by have:=h2 p e;omega),fun p e=>by have h3:=h2 p e;exact ⟨h3.1,by omega,h3.2.2⟩⟩
theorem QW.grow {V W W':World} {T B D:Nat} {a:Option Addr} {c:Nat} {l:List Int} {cc:List Value} {ga:Option Addr} {gc:Nat} {rows:List (List Value)} {si:List (Option Addr×Nat×List Int)} (h:QW V T B D a c l cc ga gc rows si W) (hx:Ext W W'):QW V T B D a c l cc ga gc rows si W':=h.next (h.tape.ext hx) (hx.but T)
theorem QW.but {V W W':World} {T B D K:Nat} {a:Option Addr} {c:Nat} {l:List Int} {cc:List Value} {ga:Option Addr} {gc:Nat} {rows:List (List Value)} {si:List (Option Addr×Nat×List Int)} (h:QW V T B D a c l cc ga gc rows si W) (hx:ak K W W') (hK:D≤K) (hg: ∀q,ga=some q→q.block≠K) (hi: ∀s∈si,∀p,s.1=some p→p.block≠K):QW V T B D a c l cc ga gc rows si W':=by
 have hp:=h.pos;have hs:=hx.size
 refine ⟨h.tape.but hx (by omega),h.box.but hx (by omega),hx.ext h.ext (by omega),CO h.own hx hg,fun s hm=> ?_,by omega⟩;obtain ⟨h1,h2⟩:=h.si s hm;exact ⟨h1.fS hx (hi s hm),fun p q=>by have h3:=h2 p q;exact ⟨h3.1,by omega,h3.2.2⟩⟩
theorem QW.uU {V W:World} {T B D:Nat} {a:Option Addr} {c:Nat} {l:List Int} {cc:List Value} {ga:Option Addr} {gc:Nat} {rows:List (List Value)} {si:List (Option Addr×Nat×List Int)} (h:QW V T B D a c l cc ga gc rows si W) {b:Option Addr} {k:Nat} {z:List Int} (hi:aA W b k z) (hb: ∀p,b=some p→D≤p.block∧p.block<W.heap.size∧ ∀q,ga=some q→p.block≠q.block):QW V T B D a c l cc ga gc rows (si++ [(b,k,z)]) W:=by
 refine {h with si:=fun s hm=> ?_};rcases List.mem_append.1 hm with e1|e1
 ·exact h.si s e1
 ·rw [List.mem_singleton]at e1;subst e1;exact ⟨hi,hb⟩
theorem QW.push {V W w5:World} {T B D:Nat} {a:Option Addr} {c:Nat} {l:List Int} {cc:List Value} {ga:Option Addr} {gc:Nat} {rows:List (List Value)} {si:List (Option Addr×Nat×List Int)} (h:QW V T B D a c l cc ga gc rows si W) {r:List Value} {v1:Value} (hr:r.length=6)
 (ho:w5.ownsRow D 24 6 v1 (rows.length+1) (rows.flatten++r)) (he: ∀a0,Ext a0 W→a0.heap.size≤D→Ext a0 w5) (hb: ∀k,k<W.heap.size→some k≠Value.ownBlock (.slice ga rows.length gc)→w5.heap[k]?=W.heap[k]?) (hz:W.heap.size≤w5.heap.size)
 (hv:v1.ownBlock=Value.ownBlock (.slice ga rows.length gc)∨ ∃g,v1.ownBlock=some g∧W.heap.size≤g):
 ∃g2 k2,v1= .slice g2 (rows.length+1) k2∧QW V T B D a c l cc g2 k2 (rows++ [r]) si w5:=by
 obtain ⟨g2,k2,rfl⟩:=fc ho;have hp:=h.pos;obtain ⟨K,M_,EZ,hKx⟩:=gS (base:=D) (v:= .slice ga rows.length gc) hp.2.2.2.2.2 (fun k q=>(h.own.own.lt k q).1) he hb hz
 have JV:K=W.heap.size∨ ∃q,ga=some q∧q.block=K:=by
  rcases EZ with q|q
  ·exact .inl q
  ·cases ga with
   |none=>cases q
   |some q'=>exact .inr ⟨q',rfl,by have e2:some q'.block=some K:=q;cases e2;rfl⟩
 have hg2: ∀q,g2=some q→(∃q0,ga=some q0∧q.block=q0.block)∨W.heap.size≤q.block:=fun q hq=>by
  subst hq;rcases hv with e1|⟨g,e1,e2⟩
  ·cases ga with
   |none=>cases e1
   |some q'=>exact .inl ⟨q',rfl,by have e3:some q.block=some q'.block:=e1;exact Option.some.inj e3⟩
  ·have e3:some q.block=some g:=e1
   cases e3;exact .inr e2
 have hs5:=hKx.size;refine ⟨g2,k2,rfl,h.tape.but hKx (by omega),h.box.but hKx (by omega),hKx.ext h.ext (by omega),?_,fun s hm=> ?_,by omega⟩
 ·have h5:=h.own.snoc (w':=w5) hr ho
  rw [List.length_append];exact h5
 ·obtain ⟨h1,h2⟩:=h.si s hm
  refine ⟨h1.fS hKx (fun p q=> ?_),fun p q=> ?_⟩
  ·have h3:=h2 p q
   rcases JV with e|⟨q',q1,q2⟩
   ·omega
   ·have:=h3.2.2 q' q1;omega
  ·have h3:=h2 p q
   refine ⟨h3.1,by omega,fun q' hq'=> ?_⟩;rcases hg2 q' hq' with⟨q0,h5,h6⟩|h5
   ·have:=h3.2.2 q0 h5;omega
   ·omega
theorem QW.far {V W:World} {T B D:Nat} {a:Option Addr} {c:Nat} {l:List Int} {cc:List Value} {ga:Option Addr} {gc:Nat} {rows:List (List Value)} {si:List (Option Addr×Nat×List Int)} (h:QW V T B D a c l cc ga gc rows si W):(∀q,ga=some q→q.block<W.heap.size)∧(∀s∈si,∀p,s.1=some p→p.block<W.heap.size):=
 ⟨fun q hq=>(h.kR q hq).2,fun s hm p hp=>((h.si s hm).2 p hp).2.1⟩
def jd (l:List cq):List (Option Addr×Nat×List Int):=l.map fun x=>(x.ua,x.uc,x.aj)
structure tV (w:World) (a:Option Addr) (c:Nat) (l:List cq):Prop where
 rows:bP w 6 a c (l.map cq.cells)
 aj: ∀x∈l,aA w x.ua x.uc x.aj
theorem tV.ext {w w':World} {a:Option Addr} {c:Nat} {l:List cq} (h:tV w a c l) (e:Ext w w'):tV w' a c l:=⟨h.rows.ext e,fun x hx=>(h.aj x hx).ext e⟩
theorem QW.VH {V W:World} {T B D:Nat} {a:Option Addr} {c:Nat} {l:List Int} {cc:List Value} {ga:Option Addr} {gc:Nat} {xs:List cq} (h:QW V T B D a c l cc ga gc (xs.map cq.cells) (jd xs) W):tV W ga gc xs:=by
 obtain ⟨ra,rc,oN,tM,Bx⟩:=h.own.recs (by decide);simp only [Value.slice.injEq,true_and]at oN;obtain ⟨rfl,rfl⟩:=oN;exact ⟨tM,fun x hx=>(h.si (x.ua,x.uc,x.aj) (List.mem_map.2 ⟨x,hx,rfl⟩)).1⟩
theorem QW.fr {V W:World} {T B D:Nat} {a:Option Addr} {c:Nat} {l:List Int} {cc:List Value} {ga:Option Addr} {gc:Nat} {xs:List cq} (h:QW V T B D a c l cc ga gc (xs.map cq.cells) (jd xs) W): ∀x∈xs,Fr V.heap.size x.ua:=fun x hx p hp=>by
 have h1:=(h.si (x.ua,x.uc,x.aj) (List.mem_map.2 ⟨x,hx,rfl⟩)).2 p hp;have h2:=h.pos;omega
theorem Ea {c:aq} {h u k:Int} (h1:0≤h∧h<c.hours) (h2:0≤u∧u<c.aj.length) (h3:0≤k∧k<h+1):cQ c ⟨1,h,none,0,[],0,u,k⟩=true:=by
 unfold cQ eN;rw [if_neg (show¬(1:Int)=0 by decide),if_pos rfl];simp only [Bool.and_eq_true,decide_eq_true_eq];refine ⟨h1,⟨⟨⟨⟨h2.1,h2.2⟩,h3.1⟩,by omega⟩,rfl⟩,rfl⟩
structure pI (us:List Nat) (u:Nat):Prop where
 wU:us.Pairwise (· < ·)
 lt: ∀z∈us,z<u
theorem pI.nil:pI [] 0:=⟨List.Pairwise.nil,fun z hz=>by cases hz⟩
theorem pI.next {us:List Nat} {u:Nat} (h:pI us u):pI us (u+1):=⟨h.wU,fun z hz=>Nat.lt_succ_of_lt (h.lt z hz)⟩
theorem pI.snoc {us:List Nat} {u:Nat} (h:pI us u):pI (us++ [u]) (u+1):=by
 refine ⟨?_,fun z hz=> ?_⟩
 ·rw [List.pairwise_append]
  exact ⟨h.wU,List.pairwise_singleton _ _,fun x hx y hy=>by rw [List.mem_singleton]at hy;subst hy;exact h.lt x hx⟩
 ·rcases List.mem_append.1 hz with e|e
  ·exact Nat.lt_succ_of_lt (h.lt z e)
  ·rw [List.mem_singleton]at e;omega
theorem zt {us:List Nat} {n:Nat} (h:pI us n):lY (n:Int) (aC us)=true:=by
 refine qu fun j hj=> ?_;rw [aK]at hj
 have e0:eF (aC us) j=((us[j]:Nat):Int):=by
  unfold eF aC;rw [List.getElem?_map,List.getElem?_eq_getElem hj];rfl
 unfold lX;rw [e0];have h1:=h.lt us[j] (List.getElem_mem hj);simp only [Bool.and_eq_true,Bool.or_eq_true,decide_eq_true_eq,beq_iff_eq];refine ⟨⟨by omega,by omega⟩,?_⟩;by_cases q:j=0
 ·exact .inl q
 ·right
  have Qv:j-1<us.length:=by omega
  have e1:eF (aC us) (j-1)=((us[j-1]:Nat):Int):=by
   unfold eF aC;rw [List.getElem?_map,List.getElem?_eq_getElem Qv];rfl
  rw [e1];have h2:=List.pairwise_iff_getElem.1 h.wU (j-1) j Qv hj (by omega);omega
theorem BA {c:aq} {h k:Int} {us:List Nat} {ua:Option Addr} {uc:Nat} (h1:0≤h∧h<c.hours) (h2:pI us c.aj.length) (h0:0<us.length) (h3:1≤k∧k≤us.length):cQ c ⟨0,h,ua,uc,aC us,k,0,0⟩=true:=by
 unfold cQ eN gR;rw [if_pos rfl];simp only [Bool.and_eq_true,decide_eq_true_eq,aK];exact ⟨h1,⟨⟨⟨⟨zt h2,h0⟩,h3.1⟩,h3.2⟩,rfl⟩,rfl⟩
theorem cq.one (x:cq):x.cells.all (·.oneCell')=true:=rfl
theorem Tryz.info_cut:(Tryz.prog.info? 24).map (fun i=>(i.zero,i.size,i.bytes))=some (some (.agg #[i64 0,i64 0,.slice none 0 0,i64 0,i64 0,i64 0]),6,64):=by kernel_rfl
theorem tW (c:aq) (h:Int) (A B:List Nat) (x:Nat) (hn:(A++x::B).Nodup): ∀n,gu c h (aC (A++B)) n=gu c h (aC (A++x::B)) n+if x<n then bC c h x else 0
 |0=>by simp [gu]
 |n+1=>by
  rw [jM,jM,tW c h A B x hn n]
  have hx:x∉A++B:=by
   have:=(List.perm_middle (a:=x) (l₁:=A) (l₂:=B)).nodup_iff.1 hn;exact (List.nodup_cons.1 this).1
  by_cases hq:n=x
  ·subst hq
   have h1:hasB (aC (A++n::B)) (n:Int)=true:=(iw _ _).2 (by simp);have h2: ¬hasB (aC (A++B)) (n:Int)=true:=fun e=>hx ((iw _ _).1 e);rw [if_pos h1,if_neg h2,if_neg (Nat.lt_irrefl n),if_pos (Nat.lt_succ_self n)];omega
  ·have hm:hasB (aC (A++B)) (n:Int)=true↔hasB (aC (A++x::B)) (n:Int)=true:=by
    rw [iw,iw];simp [hq]
   have hlt:(x<n+1)↔(x<n):=by omega
   by_cases hb:hasB (aC (A++B)) (n:Int)=true
   ·rw [if_pos hb,if_pos (hm.1 hb)]
    simp only [hlt]
   ·rw [if_neg hb,if_neg (fun e=>hb (hm.2 e))]
    simp only [hlt];split<;>omega
theorem Eb {c:aq} (hc:eZ c) (h:Nat) (A B:List Nat) (x:Nat) (hu:dQ c.aj.length (A++x::B)):fw c h (A++B)≤fw c h (A++x::B)∧fw c h (A++x::B)≤fw c h (A++B)+1:=by
 have hx:x<c.aj.length:=hu.lt x (by simp)
 have hp:((A++x::B).map (bC c h)).Perm (bC c h x::(A++B).map (bC c h)):=by
  have:=(List.perm_middle (a:=x) (l₁:=A) (l₂:=B)).map (bC c h);simpa only [List.map_cons]using this
 have hg:=Gn (gu c h (aC (A++x::B)) c.aj.length) (bC c h x) (kK c h) ((A++B).map (bC c h)) ((A++x::B).map (bC c h)) (fun y hy=>by obtain ⟨u,-,rfl⟩:=List.mem_map.1 hy;exact (fV hc h u).1) (fV hc h x).1 hp;have hs:=tW c h A B x hu.nodup c.aj.length;rw [if_pos hx]at hs;unfold fw;rw [hs];exact hg
theorem dQ.less {n x:Nat} {A B:List Nat} (h:dQ n (A++x::B)):dQ n (A++B):=
 have hs:(A++B).Sublist (A++x::B):=(List.Sublist.refl A).append (List.sublist_cons_self x B)
 ⟨h.wU.sublist hs,fun u hu=>h.lt u (hs.subset hu)⟩
theorem dQ.lY {n:Nat} {us:List Nat} (h:dQ n us):lY (n:Int) (aC us)=true:=zt ⟨h.wU,h.lt⟩
theorem dQ.gR {n:Nat} {us:List Nat} (h:dQ n us) (h0:0<us.length):Go.Proofs.YtkpngkdgphojlaaGreat.gR (n:Int) (aC us)=true:=by
 unfold Go.Proofs.YtkpngkdgphojlaaGreat.gR;rw [h.lY,aK];simpa using h0
theorem zu {c:aq} {x:cq} (h:cQ c x=true) (hk:x.kind=0) (k:Int) (h1:1≤k) (h2:k≤x.aj.length):cQ c {x with least:=k}=true:=by
 unfold cQ at h⊢;simp only [hk,if_true,Bool.and_eq_true,decide_eq_true_eq]at h⊢;exact ⟨h.1,⟨⟨⟨h.2.1.1.1.1,h1⟩,h2⟩,h.2.1.2⟩,h.2.2⟩
theorem CP {c:aq} (ha:bT c=0) {h:Int} (hH:eN c h=true) {us:List Nat} (hu:dQ c.aj.length us) (h0:0<us.length):kP c h (aC us)=((fw c h.toNat us:Int),0):=by
 unfold kP;rw [if_neg (by rw [ha];simp),if_neg (by rw [hH];simp),if_neg (by rw [hu.gR h0];simp),fK]
theorem Ec {c:aq} {x:cq} (ha:bT c=0) (h:cQ c x=true) (hk:x.kind=0):
 ∃n:Nat,kP c x.hour x.aj=((n:Int),0)∧n≤x.aj.length∧(0<n→fz c {x with least:=(n:Int)}=0)∧(n<x.aj.length→fz c {x with least:=(n:Int)+1}=72)∧
  ∀k,k<x.aj.length→2≤x.aj.length→ ∃m:Nat,kP c x.hour (x.aj.take k++x.aj.drop (k+1))=((m:Int),0)∧m≤n∧n≤m+1:=by
 have eR:=kJ ha;obtain ⟨hh,k,us,e1,e2,e3,hu,h0,-⟩:=j_ h hk
 have hH:eN c x.hour=true:=by
  unfold cQ at h;rw [Bool.and_eq_true]at h;exact h.1
 have hl:x.aj.length=us.length:=by rw [e3,aK]
 have hT:x.aj.map Int.toNat=us:=by rw [e3,fK]
 have hle:(fw c x.hour.toNat us:Int)≤x.aj.length:=by rw [hl];exact Int.ofNat_le.2 (Cx c _ us)
 refine ⟨fw c x.hour.toNat us,?_,by omega,?_,?_,?_⟩
 ·rw [e3];exact CP ha hH hu h0
 ·intro hn
  unfold fz;rw [if_neg (by rw [ha];simp),if_pos];rw [zu h hk _ (by omega) hle,Bool.true_and];unfold fW;simp [hk,hT]
 ·intro hn
  unfold fz;rw [if_neg (by rw [ha];simp),if_neg];unfold fW;simp only [hk,if_true,hT,Bool.and_eq_true,decide_eq_true_eq];omega
 ·intro k hk2 h2
  rw [hl]at hk2 h2;have G8:us.take k++us[k]::us.drop (k+1)=us:=by rw [←List.drop_eq_getElem_cons,List.take_append_drop]
  have JO:=hu;rw [←G8]at JO;obtain ⟨g1,g2⟩:=Eb eR x.hour.toNat _ _ _ JO;rw [G8]at g1 g2
  have hr:x.aj.take k++x.aj.drop (k+1)=aC (us.take k++us.drop (k+1)):=by
   rw [e3];unfold aC;simp [List.map_take,List.map_drop]
  refine ⟨fw c x.hour.toNat (us.take k++us.drop (k+1)),?_,g1,g2⟩;rw [hr];exact CP ha hH JO.less (by simp;omega)
end Go.Proofs.YtkpngkdgphojlaaGreat
