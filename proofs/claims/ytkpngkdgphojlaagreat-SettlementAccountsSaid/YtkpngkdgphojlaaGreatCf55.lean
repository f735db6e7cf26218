/- Texts of the proof. -/
import Derived.Test.YtkpngkdgphojlaaGreatCf20
set_option linter.all false
set_option maxHeartbeats 1000000
set_option maxRecDepth 100000
namespace Go.Proofs.YtkpngkdgphojlaaGreat
open Go.Proofs.Tryz
open Go.ChangeShapes Go.WideShapes Go.ChangeAt Go.RowKit Go.Deep
def Wt {H:Type} (d:DataW H) (t:TypeId):Prop:= ∀k∈d.weights prog t,k≤reachBytes
theorem oV {H:Type} {P:Program} {e:TypeId} {d:DataW H} {n:Nat}: ∀{l:List (DataW H)},d∈l→n∈d.weights P e→n∈DataW.weightsAll P e l
 | [],h,_=>by cases h
 |x::l,h,hn=>by
  simp only [DataW.weightsAll,List.mem_append];rcases List.mem_cons.1 h with rfl|h
  ·exact .inl hn
  ·exact .inr (oV h hn)
theorem MH {n:Int} (h:(Lit.int .i64 n).wf=true):bB n:=by
 simp [Lit.wf,IntKind.min,IntKind.max,IntKind.signed,IntKind.bits]at h;unfold bB;omega
section
variable{H:Type} {enc:TypeId×Value→H} {w:World} {base:Nat} {spare:Nat→Bool} {held:Bool}
theorem K0 {t:TypeId} {fs:Array Field} {fuel:Nat} {cs:List Value} {x:DataW H×List MemPlace} (ht:prog.underlying t=some (.struct fs)) (h:DataW.trod enc prog w base spare held fuel t cs=some x) (hw:Wt x.1 t):
 cs.length=prog.cellsOf t∧ ∃n,∀(i:Nat) (f:Field),fs[i]?=some f→ ∃y,DataW.trod enc prog w base spare held n f.type ((cs.drop f.offset).take (prog.cellsOf f.type))=some y∧Wt y.1 f.type:=by
 obtain ⟨xs,n,_,rfl,hlen,KP,hf⟩:=DataW.trod_struct ht h;refine ⟨hlen,n,fun i f hi=> ?_⟩;have h1:=hf i f hi;have jE:i<xs.length:=by rw [KP];exact (Array.getElem?_eq_some_iff.1 hi).1
 rw [List.getElem?_eq_getElem jE]at h1;refine ⟨xs[i],h1,fun k hk=>hw k ?_⟩;simp only [DataW.weights,ht];refine DataW.weights_mem_each (j:=i) (t:=f.type) (d:=xs[i].1) ?_ ?_ k hk
 ·rw [List.getElem?_map,Array.getElem?_toList,hi];rfl
 ·rw [List.getElem?_map,List.getElem?_eq_getElem jE];rfl
theorem Ho {α:Type} (cells:α→List Value) (Q:α→Prop) (d:α) (t e:TypeId) (m:Nat) (ht:prog.underlying t=some (.slice e)) (hm:prog.cellsOf e=m) (NG:0<m) (hlen: ∀r,(cells r).length=m)
 (LX: ∀(n:Nat) (cs:List Value) (y:DataW H×List MemPlace),DataW.trod enc prog w base spare held n e cs=some y→Wt y.1 e→ ∃r:α,cs=cells r∧Q r)
 {fuel:Nat} {v:Value} {x:DataW H×List MemPlace} (h:DataW.trod enc prog w base spare held fuel t [v]=some x) (hw:Wt x.1 t):
 ∃a c rs,v= .slice a (List.length rs) c∧bH w m a c (rs.map cells)∧(∀r∈rs,Q r)∧rs.length*prog.bytesOf e≤reachBytes:=by
 rcases open_slice ht h with⟨hcs,_⟩|⟨a,len,cap,k,n,D,Pl,hcs,hb,hl,hcm,KH,rfl,hi⟩
 ·simp only [List.cons.injEq,and_true]at hcs
  exact ⟨none,0,[],hcs,⟨Nat.le_refl _,by decide,fun i hi=>absurd hi (Nat.not_lt_zero _)⟩,(fun r hr=>by cases hr),by simp⟩
 ·simp only [List.cons.injEq,and_true]at hcs
  have wO:len≤k:=by rw [KH];split<;>omega
  have hw2:len*prog.bytesOf e≤reachBytes:=by
   have:=hw ((len+(k-len))*prog.bytesOf e) (by simp [DataW.weights,ht]);exact Nat.le_trans (Nat.mul_le_mul_right _ (by omega)) this
  have hex: ∀i,∃r:α,i<len→w.cells? base (a.add (i*m)) m=some (cells r)∧Q r:=by
   intro i;by_cases jE:i<len
   ·obtain ⟨cs',h1,h2⟩:=hi i (by omega)
    rw [hm]at h1
    obtain ⟨r,rfl,h3⟩:=LX n cs' _ h2 (fun j hj=>hw j (by
     simp only [DataW.weights,ht];exact List.mem_cons_of_mem _ (List.mem_append.2 (.inl (oV (List.mem_map.2 ⟨i,List.mem_range.2 jE,rfl⟩) hj)))))
    exact ⟨r,fun _=>⟨h1,h3⟩⟩
   ·exact ⟨d,fun hh=>absurd hh jE⟩
  obtain ⟨R,hR⟩:=Classical.axiomOfChoice hex;refine ⟨some a,cap,(List.range len).map R,by rw [hcs];simp,⟨by simp;exact hl,by unfold maxLen at hcm;omega,?_⟩,?_,by simpa using hw2⟩
  ·intro i hi'
   have jE:i<len:=by simpa using hi'
   obtain ⟨h1,-⟩:=hR i jE;obtain ⟨_,Qb,hat⟩:=World.cells?_some h1;obtain ⟨b,off,spot⟩:=a
   have hspot:spot=none:=by
    obtain ⟨h0,-⟩:=hR 0 (by omega);obtain ⟨_,_,Z_⟩:=World.cells?_some h0;have:=Z_ 0 NG;rw [List.getElem?_eq_getElem (by rw [hlen];exact NG)]at this;simp [Addr.add]at this;exact World.cell?_spot this
   subst hspot
   have gM: ∀j,Addr.add (Addr.add ⟨b,off,none⟩ (i*m)) j=⟨b,off+i*m+j,none⟩:=by
    intro j;unfold Addr.add;split<;>split<;>simp_all
   refine ⟨b,off,rfl,fun j hj=> ?_⟩;simp only [List.getElem_map,List.getElem_range]at hj⊢;have:=hat j (by rw [hlen]at hj;exact hj);rw [gM,List.getElem?_eq_getElem hj]at this;exact this
  ·intro r hr
   obtain ⟨i,hi',rfl⟩:=List.mem_map.1 hr;exact (hR i (List.mem_range.1 hi')).2
set_option maxRecDepth 10000 in
theorem EE {fuel:Nat} {v:Value} {x:DataW H×List MemPlace} (h:DataW.trod enc prog w base spare held fuel 22 [v]=some x): ∃a c l,v= .slice a (List.length l) c∧aI w a c l:=by
 rcases open_ints underlying22 underlying3 (by kernel_rfl) h with⟨hcs,_⟩|⟨a,len,cap,zs,hcs,_,hl,hm,hz,_,hcell,hwf⟩
 ·simp only [List.cons.injEq,and_true]at hcs
  exact ⟨none,0,[],hcs,Nat.le_refl _,by omega,fun i hi=>absurd hi (Nat.not_lt_zero _),fun i hi=>absurd hi (Nat.not_lt_zero _)⟩
 ·simp only [List.cons.injEq,and_true]at hcs
  have Nz:len≤zs.length:=by rw [hz];split<;>omega
  have JQ:(zs.take len).length=len:=by rw [List.length_take];omega
  refine ⟨some a,cap,zs.take len,by rw [hcs,JQ],by omega,by unfold maxLen at hm;omega,fun i hi=> ?_,fun i hi=> ?_⟩
  ·have hc:=hcell i (by omega)
   obtain ⟨b,off,spot⟩:=a;have hspot:spot=none:=by simpa [Addr.add]using World.cell?_spot (hcell 0 (by omega))
   subst hspot;refine ⟨b,off,rfl,?_⟩;rw [show(Addr.add ⟨b,off,none⟩ i)=⟨b,off+i,none⟩from by unfold Addr.add;split<;>simp_all]at hc;rw [hc,List.getElem_take];have hi':i<zs.length:=by omega
   simp [hi']
  ·rw [List.getElem_take]
   exact MH (hwf _ (List.getElem_mem _))
theorem UD {n k:Nat} (hk:k=24) (h:n*k≤reachBytes):n≤5900000000000:=by
 subst hk;unfold reachBytes at h;omega
theorem Hp:prog.cellsOf 9=1:=by kernel_rfl
theorem KA:prog.cellsOf 3=1:=by kernel_rfl
theorem MI:prog.cellsOf 4=1:=by kernel_rfl
theorem MJ:prog.cellsOf 22=1:=by kernel_rfl
theorem FW:prog.cellsOf 76=2:=by kernel_rfl
set_option maxRecDepth 10000 in
theorem Hq {fuel:Nat} {cs:List Value} {x:DataW H×List MemPlace} (h:DataW.trod enc prog w base spare held fuel 76 cs=some x) (hw:Wt x.1 76): ∃a b:Int,cs= [i64 a,i64 b]∧bB a∧bB b:=by
 obtain ⟨hlen,n,hf⟩:=K0 underlying76 h hw;rw [FW]at hlen
 obtain ⟨c0,c1,rfl⟩: ∃c0 c1,cs= [c0,c1]:=by
  match cs,hlen with
  | [a,b],_=>exact ⟨a,b,rfl⟩
 have g0: ∃y,DataW.trod enc prog w base spare held n 3 (([c0,c1].drop 0).take (prog.cellsOf 3))=some y∧Wt y.1 3:=hf 0 _ rfl;have g1: ∃y,DataW.trod enc prog w base spare held n 3 (([c0,c1].drop 1).take (prog.cellsOf 3))=some y∧Wt y.1 3:=hf 1 _ rfl;rw [KA]at g0 g1;obtain ⟨y0,g0,-⟩:=g0;obtain ⟨y1,g1,-⟩:=g1;obtain ⟨z0,e0,-,f0⟩:=DataW.trod_int underlying3 (show DataW.trod enc prog w base spare held n 3 [c0]=some y0 from g0);obtain ⟨z1,e1,-,f1⟩:=DataW.trod_int underlying3 (show DataW.trod enc prog w base spare held n 3 [c1]=some y1 from g1);simp only [List.cons.injEq,and_true]at e0 e1;subst e0 e1;exact ⟨z0,z1,rfl,MH f0,MH f1⟩
section
variable{n k:Nat} {cs:List Value} {c c':Value}
theorem gI (g: ∃y,DataW.trod enc prog w base spare held n 3 ((cs.drop k).take (prog.cellsOf 3))=some y∧Wt y.1 3) (hc:(cs.drop k).take 1= [c]:=by rfl): ∃z,c=i64 z∧bB z:=by
 rw [KA,hc]at g;obtain ⟨y,g,-⟩:=g;obtain ⟨z,e,-,f⟩:=DataW.trod_int underlying3 g;simp only [List.cons.injEq,and_true]at e;exact ⟨z,e,MH f⟩
theorem gS (g: ∃y,DataW.trod enc prog w base spare held n 9 ((cs.drop k).take (prog.cellsOf 9))=some y∧Wt y.1 9) (hc:(cs.drop k).take 1= [c]:=by rfl): ∃z,c= .string z∧z.size≤maxLen:=by
 rw [Hp,hc]at g;obtain ⟨y,g,-⟩:=g;obtain ⟨z,e,-,f⟩:=DataW.trod_string underlying9 g;simp only [List.cons.injEq,and_true]at e;exact ⟨z,e,f⟩
theorem gB (g: ∃y,DataW.trod enc prog w base spare held n 4 ((cs.drop k).take (prog.cellsOf 4))=some y∧Wt y.1 4) (hc:(cs.drop k).take 1= [c]:=by rfl): ∃z,c= .bool z:=by
 rw [MI,hc]at g;obtain ⟨y,g,-⟩:=g;obtain ⟨z,e,-⟩:=DataW.trod_bool underlying4 g;simp only [List.cons.injEq,and_true]at e;exact ⟨z,e⟩
theorem gF (g: ∃y,DataW.trod enc prog w base spare held n 76 ((cs.drop k).take (prog.cellsOf 76))=some y∧Wt y.1 76) (hc:(cs.drop k).take 2= [c,c']:=by rfl): ∃a b,c=i64 a∧c'=i64 b∧bB a∧bB b:=by
 rw [FW,hc]at g;obtain ⟨y,g,hw⟩:=g;obtain ⟨a,b,e,f,f'⟩:=Hq g hw;simp only [List.cons.injEq,and_true]at e;exact ⟨a,b,e.1,e.2,f,f'⟩
theorem gL (g: ∃y,DataW.trod enc prog w base spare held n 22 ((cs.drop k).take (prog.cellsOf 22))=some y∧Wt y.1 22) (hc:(cs.drop k).take 1= [c]:=by rfl): ∃a m l,c= .slice a (List.length l) m∧aI w a m l:=by
 rw [MJ,hc]at g;obtain ⟨y,g,-⟩:=g;exact EE g
theorem gR {α:Type} {cells:α→List Value} {Q:α→Prop} {t e:TypeId} (m:Nat) (d:α) (ht:prog.underlying t=some (.slice e)) (LX: ∀(n:Nat) (cs:List Value) (y:DataW H×List MemPlace),DataW.trod enc prog w base spare held n e cs=some y→Wt y.1 e→ ∃r:α,cs=cells r∧Q r)
 (g: ∃y,DataW.trod enc prog w base spare held n t ((cs.drop k).take (prog.cellsOf t))=some y∧Wt y.1 t) (hk:prog.cellsOf t=1:=by kernel_rfl) (hm:prog.cellsOf e=m:=by kernel_rfl) (NG:0<m:=by decide) (hlen: ∀r,(cells r).length=m:=by exact fun _=>rfl) (hc:(cs.drop k).take 1= [c]:=by rfl):
 ∃a q rs,c= .slice a (List.length rs) q∧bH w m a q (rs.map cells)∧(∀r∈rs,Q r)∧rs.length*prog.bytesOf e≤reachBytes:=by
 rw [hk,hc]at g;obtain ⟨y,g,hw⟩:=g;exact Ho cells Q d t e m ht hm NG hlen LX g hw
end
theorem KB {fuel:Nat} {cs:List Value} {x:DataW H×List MemPlace} (h:DataW.trod enc prog w base spare held fuel 74 cs=some x) (hw:Wt x.1 74): ∃r:cN,cs=r.cells∧(r.name.size≤maxLen∧aI w r.da r.dc r.cf∧bB r.lF):=by
 obtain ⟨hlen,n,hf⟩:=K0 underlying74 h hw;rw [show prog.cellsOf 74=3 from by kernel_rfl]at hlen;clear h hw;match cs,hlen,hf with
 | [c0,c1,c2],_,hf=>
   obtain ⟨z0,rfl,f0⟩:=gS (k:=0) (hf 0 _ rfl);obtain ⟨a1,k1,l1,rfl,f1⟩:=gL (k:=1) (hf 1 _ rfl);obtain ⟨z2,rfl,f2⟩:=gI (k:=2) (hf 2 _ rfl);exact ⟨⟨z0,a1,k1,l1,z2⟩,rfl,⟨f0,f1,f2⟩⟩
def Z':cN:=⟨.empty,none,0,[],0⟩
theorem Hr {fuel:Nat} {cs:List Value} {x:DataW H×List MemPlace} (h:DataW.trod enc prog w base spare held fuel 78 cs=some x) (hw:Wt x.1 78): ∃r:aS,cs=r.cells∧(r.name.size≤maxLen∧aI w r.aa r.ac r.away∧eI [r.cR,r.kq,r.rn,r.rd,r.qD,r.uf,r.sk,r.wI,r.cY,r.jH]):=by
 obtain ⟨hlen,n,hf⟩:=K0 underlying78 h hw;rw [show prog.cellsOf 78=12 from by kernel_rfl]at hlen;clear h hw;match cs,hlen,hf with
 | [c0,c1,c2,c3,c4,c5,c6,c7,c8,c9,c10,c11],_,hf=>
   obtain ⟨z0,rfl,f0⟩:=gS (k:=0) (hf 0 _ rfl);obtain ⟨z1,rfl,f1⟩:=gI (k:=1) (hf 1 _ rfl);obtain ⟨z2,rfl,f2⟩:=gI (k:=2) (hf 2 _ rfl);obtain ⟨z3,y3,rfl,rfl,f3,g3⟩:=gF (k:=3) (hf 3 _ rfl);obtain ⟨z4,y4,rfl,rfl,f4,g4⟩:=gF (k:=5) (hf 4 _ rfl);obtain ⟨z5,y5,rfl,rfl,f5,g5⟩:=gF (k:=7) (hf 5 _ rfl);obtain ⟨z6,rfl,f6⟩:=gI (k:=9) (hf 6 _ rfl);obtain ⟨z7,rfl,f7⟩:=gI (k:=10) (hf 7 _ rfl);obtain ⟨a8,k8,l8,rfl,f8⟩:=gL (k:=11) (hf 8 _ rfl);exact ⟨⟨z0,z1,z2,z3,y3,z4,y4,z5,y5,z6,z7,a8,k8,l8⟩,rfl,⟨f0,f8,(by simp [eI,f1,f2,f3,g3,f4,g4,f5,g5,f6,f7])⟩⟩
def UE:aS:=⟨.empty,0,0,0,0,0,0,0,0,0,0,none,0,[]⟩
theorem KC {fuel:Nat} {cs:List Value} {x:DataW H×List MemPlace} (h:DataW.trod enc prog w base spare held fuel 138 cs=some x) (hw:Wt x.1 138): ∃r:dH,cs=r.cells∧eI [r.width,r.aV]:=by
 obtain ⟨hlen,n,hf⟩:=K0 underlying138 h hw;rw [show prog.cellsOf 138=2 from by kernel_rfl]at hlen;clear h hw;match cs,hlen,hf with
 | [c0,c1],_,hf=>
   obtain ⟨z0,rfl,f0⟩:=gI (k:=0) (hf 0 _ rfl);obtain ⟨z1,rfl,f1⟩:=gI (k:=1) (hf 1 _ rfl);exact ⟨⟨z0,z1⟩,rfl,(by simp [eI,f0,f1])⟩
def aaa:dH:=⟨0,0⟩
theorem Hs {fuel:Nat} {cs:List Value} {x:DataW H×List MemPlace} (h:DataW.trod enc prog w base spare held fuel 67 cs=some x) (hw:Wt x.1 67): ∃r:aK,cs=r.cells∧(r.name.size≤maxLen∧aI w r.aa r.ac r.away∧bH w 2 r.sa r.sc (r.aU.map dH.cells)∧(∀s∈r.aU,eI [s.width,s.aV])∧eI [r.cS,r.min,r.max,r.fu,r.fw,r.dv,r.cL,r.dx,r.fz,r.dy,r.startTime,r.dS,r.dz,r.dA,r.aA,r.bK,r.state,r.hours,r.output]):=by
 obtain ⟨hlen,n,hf⟩:=K0 underlying67 h hw;rw [show prog.cellsOf 67=22 from by kernel_rfl]at hlen;clear h hw;match cs,hlen,hf with
 | [c0,c1,c2,c3,c4,c5,c6,c7,c8,c9,c10,c11,c12,c13,c14,c15,c16,c17,c18,c19,c20,c21],_,hf=>
   obtain ⟨z0,rfl,f0⟩:=gS (k:=0) (hf 0 _ rfl);obtain ⟨z1,rfl,f1⟩:=gI (k:=1) (hf 1 _ rfl);obtain ⟨z2,rfl,f2⟩:=gI (k:=2) (hf 2 _ rfl);obtain ⟨z3,rfl,f3⟩:=gI (k:=3) (hf 3 _ rfl);obtain ⟨a4,k4,l4,rfl,f4,q4,b4⟩:=gR (cells:=dH.cells) 2 aaa underlying65 (fun _ _ _ h hw=>KC h hw) (k:=4) (hf 4 _ rfl);obtain ⟨z5,rfl,f5⟩:=gI (k:=5) (hf 5 _ rfl);obtain ⟨z6,rfl,f6⟩:=gI (k:=6) (hf 6 _ rfl);obtain ⟨z7,rfl,f7⟩:=gI (k:=7) (hf 7 _ rfl);obtain ⟨z8,rfl,f8⟩:=gI (k:=8) (hf 8 _ rfl);obtain ⟨z9,rfl,f9⟩:=gI (k:=9) (hf 9 _ rfl);obtain ⟨KW,rfl,f10⟩:=gI (k:=10) (hf 10 _ rfl);obtain ⟨z11,rfl,f11⟩:=gI (k:=11) (hf 11 _ rfl);obtain ⟨z12,rfl,f12⟩:=gI (k:=12) (hf 12 _ rfl);obtain ⟨z13,rfl,f13⟩:=gI (k:=13) (hf 13 _ rfl);obtain ⟨z14,rfl,f14⟩:=gI (k:=14) (hf 14 _ rfl);obtain ⟨z15,rfl,f15⟩:=gI (k:=15) (hf 15 _ rfl);obtain ⟨z16,rfl,f16⟩:=gI (k:=16) (hf 16 _ rfl);obtain ⟨z17,rfl,f17⟩:=gI (k:=17) (hf 17 _ rfl);obtain ⟨a18,k18,l18,rfl,f18⟩:=gL (k:=18) (hf 18 _ rfl);obtain ⟨z19,rfl,f19⟩:=gI (k:=19) (hf 19 _ rfl);obtain ⟨z20,rfl,f20⟩:=gI (k:=20) (hf 20 _ rfl);obtain ⟨z21,rfl,f21⟩:=gI (k:=21) (hf 21 _ rfl);exact ⟨⟨z0,z1,z2,z3,a4,k4,l4,z5,z6,z7,z8,z9,KW,z11,z12,z13,z14,z15,z16,z17,a18,k18,l18,z19,z20,z21⟩,rfl,⟨f0,f18,f4,q4,(by simp [eI,f1,f2,f3,f5,f6,f7,f8,f9,f10,f11,f12,f13,f14,f15,f16,f17,f19,f20,f21])⟩⟩
def UF:aK:=⟨.empty,0,0,0,none,0,[],0,0,0,0,0,0,0,0,0,0,0,0,0,none,0,[],0,0,0⟩
theorem EF {fuel:Nat} {cs:List Value} {x:DataW H×List MemPlace} (h:DataW.trod enc prog w base spare held fuel 82 cs=some x) (hw:Wt x.1 82): ∃r:bG,cs=r.cells∧(r.name.size≤maxLen∧eI [r.cS,r.capacity,r.initial,r.final,r.fS,r.discharge,r.en,r.ed]):=by
 obtain ⟨hlen,n,hf⟩:=K0 underlying82 h hw;rw [show prog.cellsOf 82=9 from by kernel_rfl]at hlen;clear h hw;match cs,hlen,hf with
 | [c0,c1,c2,c3,c4,c5,c6,c7,c8],_,hf=>
   obtain ⟨z0,rfl,f0⟩:=gS (k:=0) (hf 0 _ rfl);obtain ⟨z1,rfl,f1⟩:=gI (k:=1) (hf 1 _ rfl);obtain ⟨z2,rfl,f2⟩:=gI (k:=2) (hf 2 _ rfl);obtain ⟨z3,rfl,f3⟩:=gI (k:=3) (hf 3 _ rfl);obtain ⟨z4,rfl,f4⟩:=gI (k:=4) (hf 4 _ rfl);obtain ⟨z5,rfl,f5⟩:=gI (k:=5) (hf 5 _ rfl);obtain ⟨z6,rfl,f6⟩:=gI (k:=6) (hf 6 _ rfl);obtain ⟨z7,y7,rfl,rfl,f7,g7⟩:=gF (k:=7) (hf 7 _ rfl);exact ⟨⟨z0,z1,z2,z3,z4,z5,z6,z7,y7⟩,rfl,⟨f0,(by simp [eI,f1,f2,f3,f4,f5,f6,f7,g7])⟩⟩
def PY:bG:=⟨.empty,0,0,0,0,0,0,0,0⟩
theorem KE {fuel:Nat} {cs:List Value} {x:DataW H×List MemPlace} (h:DataW.trod enc prog w base spare held fuel 84 cs=some x) (hw:Wt x.1 84): ∃r:dX,cs=r.cells∧(r.name.size≤maxLen∧aI w r.ia r.ic r.imp∧aI w r.ea r.ec r.exp∧aI w r.pa r.pc r.aV∧bB r.cS):=by
 obtain ⟨hlen,n,hf⟩:=K0 underlying84 h hw;rw [show prog.cellsOf 84=5 from by kernel_rfl]at hlen;clear h hw;match cs,hlen,hf with
 | [c0,c1,c2,c3,c4],_,hf=>
   obtain ⟨z0,rfl,f0⟩:=gS (k:=0) (hf 0 _ rfl);obtain ⟨z1,rfl,f1⟩:=gI (k:=1) (hf 1 _ rfl);obtain ⟨a2,k2,l2,rfl,f2⟩:=gL (k:=2) (hf 2 _ rfl);obtain ⟨a3,k3,l3,rfl,f3⟩:=gL (k:=3) (hf 3 _ rfl);obtain ⟨a4,k4,l4,rfl,f4⟩:=gL (k:=4) (hf 4 _ rfl);exact ⟨⟨z0,z1,a2,k2,l2,a3,k3,l3,a4,k4,l4⟩,rfl,⟨f0,f2,f3,f4,f1⟩⟩
def aab:dX:=⟨.empty,0,none,0,[],none,0,[],none,0,[]⟩
theorem Ht {fuel:Nat} {cs:List Value} {x:DataW H×List MemPlace} (h:DataW.trod enc prog w base spare held fuel 140 cs=some x) (hw:Wt x.1 140): ∃r:bL,cs=r.cells∧eI [r.unit,r.up,r.down]:=by
 obtain ⟨hlen,n,hf⟩:=K0 underlying140 h hw;rw [show prog.cellsOf 140=3 from by kernel_rfl]at hlen;clear h hw;match cs,hlen,hf with
 | [c0,c1,c2],_,hf=>
   obtain ⟨z0,rfl,f0⟩:=gI (k:=0) (hf 0 _ rfl);obtain ⟨z1,rfl,f1⟩:=gI (k:=1) (hf 1 _ rfl);obtain ⟨z2,rfl,f2⟩:=gI (k:=2) (hf 2 _ rfl);exact ⟨⟨z0,z1,z2⟩,rfl,(by simp [eI,f0,f1,f2])⟩
def UG:bL:=⟨0,0,0⟩
theorem CG {fuel:Nat} {cs:List Value} {x:DataW H×List MemPlace} (h:DataW.trod enc prog w base spare held fuel 87 cs=some x) (hw:Wt x.1 87): ∃r:aY,cs=r.cells∧((r.name.size≤maxLen∧aI w r.la r.lc r.lines∧bH w 3 r.ma r.mc (r.moves.map bL.cells)∧ ∀m∈r.moves,eI [m.unit,m.up,m.down])∧r.moves.length≤5900000000000):=by
 obtain ⟨hlen,n,hf⟩:=K0 underlying87 h hw;rw [show prog.cellsOf 87=4 from by kernel_rfl]at hlen;clear h hw;match cs,hlen,hf with
 | [c0,c1,c2,c3],_,hf=>
   obtain ⟨z0,rfl,f0⟩:=gS (k:=0) (hf 0 _ rfl);obtain ⟨a1,k1,l1,rfl,f1⟩:=gL (k:=1) (hf 1 _ rfl);obtain ⟨z2,rfl⟩:=gB (k:=2) (hf 2 _ rfl);obtain ⟨a3,k3,l3,rfl,f3,q3,b3⟩:=gR (cells:=bL.cells) 3 UG underlying85 (fun _ _ _ h hw=>Ht h hw) (k:=3) (hf 3 _ rfl);exact ⟨⟨z0,a1,k1,l1,z2,a3,k3,l3⟩,rfl,⟨⟨f0,f1,f3,q3⟩,UD (by kernel_rfl) b3⟩⟩
def MK:aY:=⟨.empty,none,0,[],false,none,0,[]⟩
theorem Hu {fuel:Nat} {cs:List Value} {x:DataW H×List MemPlace} (h:DataW.trod enc prog w base spare held fuel 32 cs=some x) (hw:Wt x.1 32): ∃r:ai,cs=r.cells∧(a_ w r∧ ∀o∈r.outs,o.moves.length≤5900000000000):=by
 obtain ⟨hlen,n,hf⟩:=K0 underlying32 h hw;rw [show prog.cellsOf 32=8 from by kernel_rfl]at hlen;clear h hw;match cs,hlen,hf with
 | [c0,c1,c2,c3,c4,c5,c6,c7],_,hf=>
   obtain ⟨z0,rfl,f0⟩:=gI (k:=0) (hf 0 _ rfl);obtain ⟨a1,k1,l1,rfl,f1⟩:=gL (k:=1) (hf 1 _ rfl);obtain ⟨a2,k2,l2,rfl,f2,q2,b2⟩:=gR (cells:=cN.cells) 3 Z' underlying25 (fun _ _ _ h hw=>KB h hw) (k:=2) (hf 2 _ rfl);obtain ⟨a3,k3,l3,rfl,f3,q3,b3⟩:=gR (cells:=aS.cells) 12 UE underlying26 (fun _ _ _ h hw=>Hr h hw) (k:=3) (hf 3 _ rfl);obtain ⟨a4,k4,l4,rfl,f4,q4,b4⟩:=gR (cells:=aK.cells) 22 UF underlying27 (fun _ _ _ h hw=>Hs h hw) (k:=4) (hf 4 _ rfl);obtain ⟨a5,k5,l5,rfl,f5,q5,b5⟩:=gR (cells:=bG.cells) 9 PY underlying28 (fun _ _ _ h hw=>EF h hw) (k:=5) (hf 5 _ rfl);obtain ⟨a6,k6,l6,rfl,f6,q6,b6⟩:=gR (cells:=dX.cells) 5 aab underlying29 (fun _ _ _ h hw=>KE h hw) (k:=6) (hf 6 _ rfl);obtain ⟨a7,k7,l7,rfl,f7,q7,b7⟩:=gR (cells:=aY.cells) 4 MK underlying30 (fun _ _ _ h hw=>CG h hw) (k:=7) (hf 7 _ rfl);exact ⟨⟨z0,a1,k1,l1,a2,k2,l2,a3,k3,l3,a4,k4,l4,a5,k5,l5,a6,k6,l6,a7,k7,l7⟩,rfl,⟨⟨f0,f1,f2,q2,f3,q3,f4,q4,f5,q5,f6,q6,f7,fun o ho=>(q7 o ho).1⟩,fun o ho=>(q7 o ho).2⟩⟩
end
end Go.Proofs.YtkpngkdgphojlaaGreat
