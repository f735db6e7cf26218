/- Texts of the proof. -/
import Derived.Test.YtbnamicbjaaelaaGreatCg54
set_option linter.all false
set_option maxHeartbeats 1000000
set_option maxRecDepth 100000
namespace Go.Proofs.YtbnamicbjaaelaaGreat
open Go.Proofs.Tryz
open Go.ChangeShapes Go.WideShapes Go.ChangeAt Go.RowKit Go.Deep
def Wt {H:Type} (d:DataW H) (t:TypeId):Prop:= ∀k∈d.weights prog t,k<=reachBytes
theorem py {H:Type} {P:Program} {e:TypeId} {d:DataW H} {n:Nat}: ∀{l:List (DataW H)},d∈l->n∈d.weights P e->n∈DataW.weightsAll P e l
 | [],h,_=>by cases h
 |x::l,h,hn=>by
  simp only [DataW.weightsAll,List.mem_append];rcases List.mem_cons.1 h with rfl|h
  .exact .inl hn
  .exact .inr (py h hn)
theorem Po {n:Int} (h:(Lit.int .i64 n).wf=true):b_ n:=by
 simp [Lit.wf,IntKind.min,IntKind.max,IntKind.signed,IntKind.bits]at h;unfold b_;omega
section
variable{H:Type} {enc:TypeId×Value->H} {w:World} {base:Nat} {spare:Nat->Bool} {held:Bool}
theorem NG {t:TypeId} {fs:Array Field} {fuel:Nat} {cs:List Value} {x:DataW H×List MemPlace} (ht:prog.underlying t=some (.struct fs)) (h:DataW.trod enc prog w base spare held fuel t cs=some x) (hw:Wt x.1 t):
 cs.length=prog.cellsOf t/\ ∃n,∀(i:Nat) (f:Field),fs[i]?=some f-> ∃y,DataW.trod enc prog w base spare held n f.type ((cs.drop f.offset).take (prog.cellsOf f.type))=some y/\Wt y.1 f.type:=by
 obtain ⟨xs,n,_,rfl,hlen,tQ,hf⟩:=DataW.trod_struct ht h;refine ⟨hlen,n,λi f hi=> ?_⟩;have h1:=hf i f hi;have rP:i<xs.length:=by rw [tQ];exact (Array.getElem?_eq_some_iff.1 hi).1
 rw [List.getElem?_eq_getElem rP]at h1;refine ⟨xs[i],h1,λk hk=>hw k ?_⟩;simp only [DataW.weights,ht];refine DataW.weights_mem_each (j:=i) (t:=f.type) (d:=xs[i].1) ?_ ?_ k hk
 .rw [List.getElem?_map,Array.getElem?_toList,hi];rfl
 .rw [List.getElem?_map,List.getElem?_eq_getElem rP];rfl
theorem Ar {α:Type} (cells:α->List Value) (Q:α->Prop) (d:α) (t e:TypeId) (m:Nat) (ht:prog.underlying t=some (.slice e)) (hm:prog.cellsOf e=m) (Uo:0<m) (hlen: ∀r,(cells r).length=m)
 (hel: ∀(n:Nat) (cs:List Value) (y:DataW H×List MemPlace),DataW.trod enc prog w base spare held n e cs=some y->Wt y.1 e-> ∃r:α,cs=cells r/\Q r)
 {fuel:Nat} {v:Value} {x:DataW H×List MemPlace} (h:DataW.trod enc prog w base spare held fuel t [v]=some x) (hw:Wt x.1 t):
 ∃a c rs,v= .slice a (List.length rs) c/\ct w m a c (rs.map cells)/\(∀r∈rs,Q r)/\rs.length*prog.bytesOf e<=reachBytes:=by
 rcases open_slice ht h with⟨hcs,_⟩|⟨a,len,cap,k,n,D,Pl,hcs,hb,hl,hcm,J6,rfl,hi⟩
 .simp only [List.cons.injEq,and_true]at hcs
  exact ⟨none,0,[],hcs,⟨bY,aq,λi hi=>absurd hi (Nat.not_lt_zero _)⟩,(λr hr=>by cases hr),aG⟩
 .simp only [List.cons.injEq,and_true]at hcs
  have wI:len<=k:=by rw [J6];split<;>omega
  have hw2:len*prog.bytesOf e<=reachBytes:=by
   have:=hw ((len+(k-len))*prog.bytesOf e) (by simp [DataW.weights,ht]);exact Nat.le_trans (Nat.mul_le_mul_right _ ae) this
  have hex: ∀i,∃r:α,i<len->w.cells? base (a.add (i*m)) m=some (cells r)/\Q r:=by
   intro i;by_cases rP:i<len
   .obtain ⟨cs',h1,h2⟩:=hi i ae
    rw [hm]at h1
    obtain ⟨r,rfl,h3⟩:=hel n cs' _ h2 (λj hj=>hw j (by
     simp only [DataW.weights,ht];exact List.mem_cons_of_mem _ (List.mem_append.2 (.inl (py (List.mem_map.2 ⟨i,List.mem_range.2 rP,rfl⟩) hj)))))
    exact ⟨r,λ_=>⟨h1,h3⟩⟩
   .exact ⟨d,λhh=>absurd hh rP⟩
  obtain ⟨R,hR⟩:=Classical.axiomOfChoice hex;refine ⟨some a,cap,(List.range len).map R,by rw [hcs];simp,⟨by simp;exact hl,by unfold maxLen at hcm;omega,?_⟩,?_,by simpa using hw2⟩
  .intro i hi'
   have rP:i<len:=by simpa using hi'
   obtain ⟨h1,-⟩:=hR i rP;obtain ⟨_,YK,hat⟩:=World.cells?_some h1;obtain ⟨b,off,spot⟩:=a
   have hspot:spot=none:=by
    obtain ⟨h0,-⟩:=hR 0 ae;obtain ⟨_,_,Rv⟩:=World.cells?_some h0;have:=Rv 0 Uo;rw [List.getElem?_eq_getElem (by rw [hlen];exact Uo)]at this;simp [Addr.add]at this;exact World.cell?_spot this
   subst hspot
   have fM: ∀j,Addr.add (Addr.add ⟨b,off,none⟩ (i*m)) j=⟨b,off+i*m+j,none⟩:=by
    intro j;unfold Addr.add;split<;>split<;>simp_all
   refine ⟨b,off,rfl,λj hj=> ?_⟩;simp only [List.getElem_map,List.getElem_range]at hj⊢;have:=hat j (by rw [hlen]at hj;exact hj);rw [fM,List.getElem?_eq_getElem hj]at this;exact this
  .intro r hr
   obtain ⟨i,hi',rfl⟩:=List.mem_map.1 hr;exact (hR i (List.mem_range.1 hi')).2
set_option maxRecDepth 10000 in
theorem GH {fuel:Nat} {v:Value} {x:DataW H×List MemPlace} (h:DataW.trod enc prog w base spare held fuel 22 [v]=some x): ∃a c l,v= .slice a (List.length l) c/\aS w a c l:=by
 rcases open_ints underlying22 underlying3 ax h with⟨hcs,_⟩|⟨a,len,cap,zs,hcs,_,hl,hm,hz,_,hcell,YJ⟩
 .simp only [List.cons.injEq,and_true]at hcs
  exact ⟨none,0,[],hcs,bY,ae,λi hi=>absurd hi (Nat.not_lt_zero _),λi hi=>absurd hi (Nat.not_lt_zero _)⟩
 .simp only [List.cons.injEq,and_true]at hcs
  have NP:len<=zs.length:=by rw [hz];split<;>omega
  have KG:(zs.take len).length=len:=by rw [List.length_take];omega
  refine ⟨some a,cap,zs.take len,by rw [hcs,KG],ae,by unfold maxLen at hm;omega,λi hi=> ?_,λi hi=> ?_⟩
  .have hc:=hcell i ae
   obtain ⟨b,off,spot⟩:=a;have hspot:spot=none:=by simpa [Addr.add]using World.cell?_spot (hcell 0 ae)
   subst hspot;refine ⟨b,off,rfl,?_⟩;rw [show(Addr.add ⟨b,off,none⟩ i)=⟨b,off+i,none⟩from by unfold Addr.add;split<;>simp_all]at hc;rw [hc,List.getElem_take];have hi':i<zs.length:=ae;simp [hi']
  .rw [List.getElem_take]
   exact Po (YJ _ (List.getElem_mem _))
theorem Yc {n k:Nat} (hk:k=24) (h:n*k<=reachBytes):n<=5900000000000:=by
 subst hk;unfold reachBytes at h;omega
theorem JU:prog.cellsOf 9=1:=ax
theorem Nd:prog.cellsOf 3=1:=ax
theorem Pp:prog.cellsOf 4=1:=ax
theorem Pq:prog.cellsOf 22=1:=ax
theorem Ic:prog.cellsOf 64=2:=ax
set_option maxRecDepth 10000 in
theorem JV {fuel:Nat} {cs:List Value} {x:DataW H×List MemPlace} (h:DataW.trod enc prog w base spare held fuel 64 cs=some x) (hw:Wt x.1 64): ∃a b:Int,cs= [i64 a,i64 b]/\b_ a/\b_ b:=by
 obtain ⟨hlen,n,hf⟩:=NG underlying64 h hw;rw [Ic]at hlen
 obtain ⟨c0,c1,rfl⟩: ∃c0 c1,cs= [c0,c1]:=by
  match cs,hlen with
  | [a,b],_=>exact ⟨a,b,rfl⟩
 have g0: ∃y,DataW.trod enc prog w base spare held n 3 (([c0,c1].drop 0).take (prog.cellsOf 3))=some y/\Wt y.1 3:=hf 0 _ rfl;have g1: ∃y,DataW.trod enc prog w base spare held n 3 (([c0,c1].drop 1).take (prog.cellsOf 3))=some y/\Wt y.1 3:=hf 1 _ rfl;rw [Nd]at g0 g1;obtain ⟨y0,g0,-⟩:=g0;obtain ⟨y1,g1,-⟩:=g1;obtain ⟨z0,e0,-,f0⟩:=DataW.trod_int underlying3 (show DataW.trod enc prog w base spare held n 3 [c0]=some y0 from g0);obtain ⟨z1,e1,-,f1⟩:=DataW.trod_int underlying3 (show DataW.trod enc prog w base spare held n 3 [c1]=some y1 from g1);simp only [List.cons.injEq,and_true]at e0 e1;subst e0 e1;exact ⟨z0,z1,rfl,Po f0,Po f1⟩
section
variable{n k:Nat} {cs:List Value} {c c':Value}
theorem gI (g: ∃y,DataW.trod enc prog w base spare held n 3 ((cs.drop k).take (prog.cellsOf 3))=some y/\Wt y.1 3) (hc:(cs.drop k).take 1= [c]:=by rfl): ∃z,c=i64 z/\b_ z:=by
 rw [Nd,hc]at g;obtain ⟨y,g,-⟩:=g;obtain ⟨z,e,-,f⟩:=DataW.trod_int underlying3 g;simp only [List.cons.injEq,and_true]at e;exact ⟨z,e,Po f⟩
theorem gS (g: ∃y,DataW.trod enc prog w base spare held n 9 ((cs.drop k).take (prog.cellsOf 9))=some y/\Wt y.1 9) (hc:(cs.drop k).take 1= [c]:=by rfl): ∃z,c= .string z/\z.size<=maxLen:=by
 rw [JU,hc]at g;obtain ⟨y,g,-⟩:=g;obtain ⟨z,e,-,f⟩:=DataW.trod_string underlying9 g;simp only [List.cons.injEq,and_true]at e;exact ⟨z,e,f⟩
theorem gB (g: ∃y,DataW.trod enc prog w base spare held n 4 ((cs.drop k).take (prog.cellsOf 4))=some y/\Wt y.1 4) (hc:(cs.drop k).take 1= [c]:=by rfl): ∃z,c= .bool z:=by
 rw [Pp,hc]at g;obtain ⟨y,g,-⟩:=g;obtain ⟨z,e,-⟩:=DataW.trod_bool underlying4 g;simp only [List.cons.injEq,and_true]at e;exact ⟨z,e⟩
theorem gF (g: ∃y,DataW.trod enc prog w base spare held n 64 ((cs.drop k).take (prog.cellsOf 64))=some y/\Wt y.1 64) (hc:(cs.drop k).take 2= [c,c']:=by rfl): ∃a b,c=i64 a/\c'=i64 b/\b_ a/\b_ b:=by
 rw [Ic,hc]at g;obtain ⟨y,g,hw⟩:=g;obtain ⟨a,b,e,f,f'⟩:=JV g hw;simp only [List.cons.injEq,and_true]at e;exact ⟨a,b,e.1,e.2,f,f'⟩
theorem gL (g: ∃y,DataW.trod enc prog w base spare held n 22 ((cs.drop k).take (prog.cellsOf 22))=some y/\Wt y.1 22) (hc:(cs.drop k).take 1= [c]:=by rfl): ∃a m l,c= .slice a (List.length l) m/\aS w a m l:=by
 rw [Pq,hc]at g;obtain ⟨y,g,-⟩:=g;exact GH g
theorem gR {α:Type} {cells:α->List Value} {Q:α->Prop} {t e:TypeId} (m:Nat) (d:α) (ht:prog.underlying t=some (.slice e)) (hel: ∀(n:Nat) (cs:List Value) (y:DataW H×List MemPlace),DataW.trod enc prog w base spare held n e cs=some y->Wt y.1 e-> ∃r:α,cs=cells r/\Q r)
 (g: ∃y,DataW.trod enc prog w base spare held n t ((cs.drop k).take (prog.cellsOf t))=some y/\Wt y.1 t) (hk:prog.cellsOf t=1:=by kernel_rfl) (hm:prog.cellsOf e=m:=by kernel_rfl) (Uo:0<m:=by decide) (hlen: ∀r,(cells r).length=m:=by exact λ_=>rfl) (hc:(cs.drop k).take 1= [c]:=by rfl):
 ∃a q rs,c= .slice a (List.length rs) q/\ct w m a q (rs.map cells)/\(∀r∈rs,Q r)/\rs.length*prog.bytesOf e<=reachBytes:=by
 rw [hk,hc]at g;obtain ⟨y,g,hw⟩:=g;exact Ar cells Q d t e m ht hm Uo hlen hel g hw
end
theorem Nf {fuel:Nat} {cs:List Value} {x:DataW H×List MemPlace} (h:DataW.trod enc prog w base spare held fuel 62 cs=some x) (hw:Wt x.1 62): ∃r:dK,cs=r.cells/\(r.name.size<=maxLen/\aS w r.da r.dc r.cV/\b_ r.jF):=by
 obtain ⟨hlen,n,hf⟩:=NG underlying62 h hw;rw [show prog.cellsOf 62=3 from by kernel_rfl]at hlen;clear h hw;match cs,hlen,hf with
 | [c0,c1,c2],_,hf=>
   obtain ⟨z0,rfl,f0⟩:=gS (k:=0) (hf 0 _ rfl);obtain ⟨a1,k1,l1,rfl,f1⟩:=gL (k:=1) (hf 1 _ rfl);obtain ⟨z2,rfl,f2⟩:=gI (k:=2) (hf 2 _ rfl);exact ⟨⟨z0,a1,k1,l1,z2⟩,rfl,⟨f0,f1,f2⟩⟩
def ac1:dK:=⟨.empty,none,0,[],0⟩
theorem JW {fuel:Nat} {cs:List Value} {x:DataW H×List MemPlace} (h:DataW.trod enc prog w base spare held fuel 66 cs=some x) (hw:Wt x.1 66): ∃r:bn,cs=r.cells/\(r.name.size<=maxLen/\aS w r.aa r.ac r.away/\gO [r.dL,r.ld,r.rn,r.rd,r.uH,r.yt,r.vw,r.Bn,r.dO,r.kK]):=by
 obtain ⟨hlen,n,hf⟩:=NG underlying66 h hw;rw [show prog.cellsOf 66=12 from by kernel_rfl]at hlen;clear h hw;match cs,hlen,hf with
 | [c0,c1,c2,c3,c4,c5,c6,c7,c8,c9,c10,c11],_,hf=>
   obtain ⟨z0,rfl,f0⟩:=gS (k:=0) (hf 0 _ rfl);obtain ⟨z1,rfl,f1⟩:=gI (k:=1) (hf 1 _ rfl);obtain ⟨z2,rfl,f2⟩:=gI (k:=2) (hf 2 _ rfl);obtain ⟨z3,y3,rfl,rfl,f3,g3⟩:=gF (k:=3) (hf 3 _ rfl);obtain ⟨z4,y4,rfl,rfl,f4,g4⟩:=gF (k:=5) (hf 4 _ rfl);obtain ⟨z5,y5,rfl,rfl,f5,g5⟩:=gF (k:=7) (hf 5 _ rfl);obtain ⟨z6,rfl,f6⟩:=gI (k:=9) (hf 6 _ rfl);obtain ⟨z7,rfl,f7⟩:=gI (k:=10) (hf 7 _ rfl);obtain ⟨a8,k8,l8,rfl,f8⟩:=gL (k:=11) (hf 8 _ rfl);exact ⟨⟨z0,z1,z2,z3,y3,z4,y4,z5,y5,z6,z7,a8,k8,l8⟩,rfl,⟨f0,f8,(by simp [gO,f1,f2,f3,g3,f4,g4,f5,g5,f6,f7])⟩⟩
def Yd:bn:=⟨.empty,0,0,0,0,0,0,0,0,0,0,none,0,[]⟩
theorem Ng {fuel:Nat} {cs:List Value} {x:DataW H×List MemPlace} (h:DataW.trod enc prog w base spare held fuel 110 cs=some x) (hw:Wt x.1 110): ∃r:dy,cs=r.cells/\gO [r.width,r.bE]:=by
 obtain ⟨hlen,n,hf⟩:=NG underlying110 h hw;rw [show prog.cellsOf 110=2 from by kernel_rfl]at hlen;clear h hw;match cs,hlen,hf with
 | [c0,c1],_,hf=>
   obtain ⟨z0,rfl,f0⟩:=gI (k:=0) (hf 0 _ rfl);obtain ⟨z1,rfl,f1⟩:=gI (k:=1) (hf 1 _ rfl);exact ⟨⟨z0,z1⟩,rfl,(by simp [gO,f0,f1])⟩
def ac2:dy:=⟨0,0⟩
theorem JX {fuel:Nat} {cs:List Value} {x:DataW H×List MemPlace} (h:DataW.trod enc prog w base spare held fuel 55 cs=some x) (hw:Wt x.1 55): ∃r:aP,cs=r.cells/\(r.name.size<=maxLen/\aS w r.aa r.ac r.away/\ct w 2 r.sa r.sc (r.aY.map dy.cells)/\(∀s∈r.aY,gO [s.width,s.bE])/\gO [r.fE,r.min,r.max,r.fF,r.fG,r.dA,r.cQ,r.dB,r.eK,r.dC,r.startTime,r.dX,r.dD,r.dE,r.aX,r.bR,r.state,r.hours,r.output]):=by
 obtain ⟨hlen,n,hf⟩:=NG underlying55 h hw;rw [show prog.cellsOf 55=22 from by kernel_rfl]at hlen;clear h hw;match cs,hlen,hf with
 | [c0,c1,c2,c3,c4,c5,c6,c7,c8,c9,c10,c11,c12,c13,c14,c15,c16,c17,c18,c19,c20,c21],_,hf=>
   obtain ⟨z0,rfl,f0⟩:=gS (k:=0) (hf 0 _ rfl);obtain ⟨z1,rfl,f1⟩:=gI (k:=1) (hf 1 _ rfl);obtain ⟨z2,rfl,f2⟩:=gI (k:=2) (hf 2 _ rfl);obtain ⟨z3,rfl,f3⟩:=gI (k:=3) (hf 3 _ rfl);obtain ⟨a4,k4,l4,rfl,f4,q4,b4⟩:=gR (cells:=dy.cells) 2 ac2 underlying53 (λ_ _ _ h hw=>Ng h hw) (k:=4) (hf 4 _ rfl);obtain ⟨z5,rfl,f5⟩:=gI (k:=5) (hf 5 _ rfl);obtain ⟨z6,rfl,f6⟩:=gI (k:=6) (hf 6 _ rfl);obtain ⟨z7,rfl,f7⟩:=gI (k:=7) (hf 7 _ rfl);obtain ⟨z8,rfl,f8⟩:=gI (k:=8) (hf 8 _ rfl);obtain ⟨z9,rfl,f9⟩:=gI (k:=9) (hf 9 _ rfl);obtain ⟨PF,rfl,f10⟩:=gI (k:=10) (hf 10 _ rfl);obtain ⟨z11,rfl,f11⟩:=gI (k:=11) (hf 11 _ rfl);obtain ⟨z12,rfl,f12⟩:=gI (k:=12) (hf 12 _ rfl);obtain ⟨z13,rfl,f13⟩:=gI (k:=13) (hf 13 _ rfl);obtain ⟨z14,rfl,f14⟩:=gI (k:=14) (hf 14 _ rfl);obtain ⟨z15,rfl,f15⟩:=gI (k:=15) (hf 15 _ rfl);obtain ⟨z16,rfl,f16⟩:=gI (k:=16) (hf 16 _ rfl);obtain ⟨z17,rfl,f17⟩:=gI (k:=17) (hf 17 _ rfl);obtain ⟨a18,k18,l18,rfl,f18⟩:=gL (k:=18) (hf 18 _ rfl);obtain ⟨z19,rfl,f19⟩:=gI (k:=19) (hf 19 _ rfl);obtain ⟨z20,rfl,f20⟩:=gI (k:=20) (hf 20 _ rfl);obtain ⟨z21,rfl,f21⟩:=gI (k:=21) (hf 21 _ rfl);exact ⟨⟨z0,z1,z2,z3,a4,k4,l4,z5,z6,z7,z8,z9,PF,z11,z12,z13,z14,z15,z16,z17,a18,k18,l18,z19,z20,z21⟩,rfl,⟨f0,f18,f4,q4,(by simp [gO,f1,f2,f3,f5,f6,f7,f8,f9,f10,f11,f12,f13,f14,f15,f16,f17,f19,f20,f21])⟩⟩
def Ye:aP:=⟨.empty,0,0,0,none,0,[],0,0,0,0,0,0,0,0,0,0,0,0,0,none,0,[],0,0,0⟩
theorem GI {fuel:Nat} {cs:List Value} {x:DataW H×List MemPlace} (h:DataW.trod enc prog w base spare held fuel 70 cs=some x) (hw:Wt x.1 70): ∃r:bW,cs=r.cells/\(r.name.size<=maxLen/\gO [r.fE,r.capacity,r.initial,r.final,r.gN,r.discharge,r.en,r.ed]):=by
 obtain ⟨hlen,n,hf⟩:=NG underlying70 h hw;rw [show prog.cellsOf 70=9 from by kernel_rfl]at hlen;clear h hw;match cs,hlen,hf with
 | [c0,c1,c2,c3,c4,c5,c6,c7,c8],_,hf=>
   obtain ⟨z0,rfl,f0⟩:=gS (k:=0) (hf 0 _ rfl);obtain ⟨z1,rfl,f1⟩:=gI (k:=1) (hf 1 _ rfl);obtain ⟨z2,rfl,f2⟩:=gI (k:=2) (hf 2 _ rfl);obtain ⟨z3,rfl,f3⟩:=gI (k:=3) (hf 3 _ rfl);obtain ⟨z4,rfl,f4⟩:=gI (k:=4) (hf 4 _ rfl);obtain ⟨z5,rfl,f5⟩:=gI (k:=5) (hf 5 _ rfl);obtain ⟨z6,rfl,f6⟩:=gI (k:=6) (hf 6 _ rfl);obtain ⟨z7,y7,rfl,rfl,f7,g7⟩:=gF (k:=7) (hf 7 _ rfl);exact ⟨⟨z0,z1,z2,z3,z4,z5,z6,z7,y7⟩,rfl,⟨f0,(by simp [gO,f1,f2,f3,f4,f5,f6,f7,g7])⟩⟩
def S5:bW:=⟨.empty,0,0,0,0,0,0,0,0⟩
theorem Nh {fuel:Nat} {cs:List Value} {x:DataW H×List MemPlace} (h:DataW.trod enc prog w base spare held fuel 72 cs=some x) (hw:Wt x.1 72): ∃r:fp,cs=r.cells/\(r.name.size<=maxLen/\aS w r.ia r.ic r.imp/\aS w r.ea r.ec r.exp/\aS w r.pa r.pc r.bE/\b_ r.fE):=by
 obtain ⟨hlen,n,hf⟩:=NG underlying72 h hw;rw [show prog.cellsOf 72=5 from by kernel_rfl]at hlen;clear h hw;match cs,hlen,hf with
 | [c0,c1,c2,c3,c4],_,hf=>
   obtain ⟨z0,rfl,f0⟩:=gS (k:=0) (hf 0 _ rfl);obtain ⟨z1,rfl,f1⟩:=gI (k:=1) (hf 1 _ rfl);obtain ⟨a2,k2,l2,rfl,f2⟩:=gL (k:=2) (hf 2 _ rfl);obtain ⟨a3,k3,l3,rfl,f3⟩:=gL (k:=3) (hf 3 _ rfl);obtain ⟨a4,k4,l4,rfl,f4⟩:=gL (k:=4) (hf 4 _ rfl);exact ⟨⟨z0,z1,a2,k2,l2,a3,k3,l3,a4,k4,l4⟩,rfl,⟨f0,f2,f3,f4,f1⟩⟩
def ac3:fp:=⟨.empty,0,none,0,[],none,0,[],none,0,[]⟩
theorem JY {fuel:Nat} {cs:List Value} {x:DataW H×List MemPlace} (h:DataW.trod enc prog w base spare held fuel 112 cs=some x) (hw:Wt x.1 112): ∃r:cj,cs=r.cells/\gO [r.unit,r.up,r.down]:=by
 obtain ⟨hlen,n,hf⟩:=NG underlying112 h hw;rw [show prog.cellsOf 112=3 from by kernel_rfl]at hlen;clear h hw;match cs,hlen,hf with
 | [c0,c1,c2],_,hf=>
   obtain ⟨z0,rfl,f0⟩:=gI (k:=0) (hf 0 _ rfl);obtain ⟨z1,rfl,f1⟩:=gI (k:=1) (hf 1 _ rfl);obtain ⟨z2,rfl,f2⟩:=gI (k:=2) (hf 2 _ rfl);exact ⟨⟨z0,z1,z2⟩,rfl,(by simp [gO,f0,f1,f2])⟩
def Yf:cj:=⟨0,0,0⟩
theorem EA {fuel:Nat} {cs:List Value} {x:DataW H×List MemPlace} (h:DataW.trod enc prog w base spare held fuel 75 cs=some x) (hw:Wt x.1 75): ∃r:cJ,cs=r.cells/\((r.name.size<=maxLen/\aS w r.la r.lc r.lines/\ct w 3 r.ma r.mc (r.moves.map cj.cells)/\ ∀m∈r.moves,gO [m.unit,m.up,m.down])/\r.moves.length<=5900000000000):=by
 obtain ⟨hlen,n,hf⟩:=NG underlying75 h hw;rw [show prog.cellsOf 75=4 from by kernel_rfl]at hlen;clear h hw;match cs,hlen,hf with
 | [c0,c1,c2,c3],_,hf=>
   obtain ⟨z0,rfl,f0⟩:=gS (k:=0) (hf 0 _ rfl);obtain ⟨a1,k1,l1,rfl,f1⟩:=gL (k:=1) (hf 1 _ rfl);obtain ⟨z2,rfl⟩:=gB (k:=2) (hf 2 _ rfl);obtain ⟨a3,k3,l3,rfl,f3,q3,b3⟩:=gR (cells:=cj.cells) 3 Yf underlying73 (λ_ _ _ h hw=>JY h hw) (k:=3) (hf 3 _ rfl);exact ⟨⟨z0,a1,k1,l1,z2,a3,k3,l3⟩,rfl,⟨⟨f0,f1,f3,q3⟩,Yc ax b3⟩⟩
def Pr:cJ:=⟨.empty,none,0,[],false,none,0,[]⟩
theorem JZ {fuel:Nat} {cs:List Value} {x:DataW H×List MemPlace} (h:DataW.trod enc prog w base spare held fuel 32 cs=some x) (hw:Wt x.1 32): ∃r:ay,cs=r.cells/\(bm w r/\ ∀o∈r.outs,o.moves.length<=5900000000000):=by
 obtain ⟨hlen,n,hf⟩:=NG underlying32 h hw;rw [show prog.cellsOf 32=8 from by kernel_rfl]at hlen;clear h hw;match cs,hlen,hf with
 | [c0,c1,c2,c3,c4,c5,c6,c7],_,hf=>
   obtain ⟨z0,rfl,f0⟩:=gI (k:=0) (hf 0 _ rfl);obtain ⟨a1,k1,l1,rfl,f1⟩:=gL (k:=1) (hf 1 _ rfl);obtain ⟨a2,k2,l2,rfl,f2,q2,b2⟩:=gR (cells:=dK.cells) 3 ac1 underlying25 (λ_ _ _ h hw=>Nf h hw) (k:=2) (hf 2 _ rfl);obtain ⟨a3,k3,l3,rfl,f3,q3,b3⟩:=gR (cells:=bn.cells) 12 Yd underlying26 (λ_ _ _ h hw=>JW h hw) (k:=3) (hf 3 _ rfl);obtain ⟨a4,k4,l4,rfl,f4,q4,b4⟩:=gR (cells:=aP.cells) 22 Ye underlying27 (λ_ _ _ h hw=>JX h hw) (k:=4) (hf 4 _ rfl);obtain ⟨a5,k5,l5,rfl,f5,q5,b5⟩:=gR (cells:=bW.cells) 9 S5 underlying28 (λ_ _ _ h hw=>GI h hw) (k:=5) (hf 5 _ rfl);obtain ⟨a6,k6,l6,rfl,f6,q6,b6⟩:=gR (cells:=fp.cells) 5 ac3 underlying29 (λ_ _ _ h hw=>Nh h hw) (k:=6) (hf 6 _ rfl);obtain ⟨a7,k7,l7,rfl,f7,q7,b7⟩:=gR (cells:=cJ.cells) 4 Pr underlying30 (λ_ _ _ h hw=>EA h hw) (k:=7) (hf 7 _ rfl);exact ⟨⟨z0,a1,k1,l1,a2,k2,l2,a3,k3,l3,a4,k4,l4,a5,k5,l5,a6,k6,l6,a7,k7,l7⟩,rfl,⟨⟨f0,f1,f2,q2,f3,q3,f4,q4,f5,q5,f6,q6,f7,λo ho=>(q7 o ho).1⟩,λo ho=>(q7 o ho).2⟩⟩
end
section
variable{H:Type} {enc:TypeId×Value->H} {w:World} {base:Nat} {spare:Nat->Bool} {held:Bool}
theorem J0 {fuel:Nat} {v:Value} {x:DataW H×List MemPlace} (h:DataW.trod enc prog w base spare held fuel 44 [v]=some x) (hw:Wt x.1 44): ∃a c xs,v= .slice a (List.length xs) c/\u_ w a c xs:=by
 obtain ⟨a,c,ks,e,f,q,-⟩:=Ar kF.cells (λr=>mq w r.a r.c r.rs) ⟨none,0,[]⟩ 44 46 1 underlying44 ax aq (λ_=>rfl) (λn cs y h hw=>by
  obtain ⟨v,rfl⟩: ∃v,cs= [v]:=by rcases open_slice underlying46 h with⟨hcs,_⟩|⟨a,len,cap,k,n,D,Pl,hcs,_⟩<;>exact ⟨_,hcs⟩
  obtain ⟨a,c,l,rfl,hl⟩:=IP h;exact ⟨⟨a,c,l⟩,rfl,hl⟩) h hw
 exact ⟨a,c,ks,e,f,q⟩
end
theorem Tryz.laidOut:laidOutB Tryz.prog=true:=ax
def Au (k:IntKind) (w:World) (a:Option Addr) (len cap:Nat) (zs:List Int):Prop:=
 (a=none/\len=0/\cap=0/\zs= [])\/
 ∃x,a=some x/\len<=cap/\cap<=maxLen/\zs.length=cap/\(∀i,i<zs.length->w.cell? (x.add i)=some (.int k (zs.getD i 0)))/\ ∀n∈zs,(Lit.int k n).wf=true
theorem wf_i64 {n:Int} (h:(Lit.int .i64 n).wf=true): -9223372036854775808<=n/\n<9223372036854775808:=by
 simp [Lit.wf,IntKind.min,IntKind.max,IntKind.signed,IntKind.bits]at h;omega
theorem Au.Qw {w:World} {a:Option Addr} {len cap:Nat} {zs:List Int} (h:Au .i64 w a len cap zs):(zs.take len).length=len/\aS w a cap (zs.take len):=by
 rcases h with⟨rfl,rfl,rfl,rfl⟩|⟨x,rfl,h1,h2,h3,h4,h5⟩
 .exact ⟨rfl,⟨bY,ae,λi hi=>absurd hi (Nat.not_lt_zero _),λi hi=>absurd hi (Nat.not_lt_zero _)⟩⟩
 .have hl:(zs.take len).length=len:=by rw [List.length_take];omega
  refine ⟨hl,⟨ae,by unfold maxLen at h2;omega,λi hi=> ?_,λi hi=> ?_⟩⟩
  .have hc:=h4 i ae
   obtain ⟨b,off,spot⟩:=x;have hspot:spot=none:=by simpa [Addr.add]using World.cell?_spot (h4 0 ae)
   subst hspot;refine ⟨b,off,rfl,?_⟩;rw [show(Addr.add ⟨b,off,none⟩ i)=⟨b,off+i,none⟩from by unfold Addr.add;split<;>simp_all]at hc;rw [hc,List.getElem_take];have hi':i<zs.length:=ae;simp [hi']
  .rw [List.getElem_take]
   exact wf_i64 (h5 _ (List.getElem_mem _))
