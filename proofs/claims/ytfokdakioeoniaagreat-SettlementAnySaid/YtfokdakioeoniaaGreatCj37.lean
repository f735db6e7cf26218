/- Texts of the proof. -/
import Derived.Test.YtfokdakioeoniaaGreatCj21
import Derived.Test.YtfokdakioeoniaaGreatCj36
set_option linter.all false
set_option maxHeartbeats 1000000
set_option maxRecDepth 100000
namespace Go.Proofs.YtfokdakioeoniaaGreat
open Go.Proofs.Tryz
open Go Go.RowKit
section
variable{P:Program} {ops:Array Oper} {Q:Exit->Act->World->Prop} {z n:Nat} {ls uo:Array Bool} {a:Act} {w B0:World} {o:Oper} {F:Nat} {xs:Array Operand} {ts:Array TypeId} {vals:Array Value} {q:Rat} {L:Nat} {a':bE->Act}
theorem Vi {K:Act->World->Prop} (con:Calls P F vals w (kN w q L)) (ho:o.op= .call {callee:= .value (.func F),args:=xs,argTypes:=ts}) (hv:xs.map a.eval=vals) (hen: ∀args w,(callFunc F args).run P w= .ok (.enter F args) w)
 (h: ∀(r:bE) (w':World),fE w' r q L->dO w' r q w.heap.size->Ext w w'->K (a.put o.dst (.agg #[.bool r.s,.slice r.a r.k r.c,.slice r.b r.j r.d])) w'):Oper.wp P o a w K Q:=
 wE hen (con.mono λ_ w' ⟨r,he,h1,h2,h3⟩=>⟨_,he,h r w' h1 h2 h3⟩) ho hv
theorem zN (i:Nat) (s:Ext B0 w) (con:Calls P F vals w (kN w q L))
 (h: ∀(r:bE) (w':World),Hid (fE w' r q L)->Hid (dO w' r q w.heap.size)->Ext w w'->Ext B0 w'->S7 P ops Q (λw=>Ext B0 w) z n uo (a' r) w')
 (ei:ops[i]?=some o:=by rfl) (hg:Region.wanted o (yielded ops a.tmps)=true:=by rfl) (ho:o.op= .call {callee:= .value (.func F),args:=xs,argTypes:=ts}:=by rfl) (hv:xs.map a.eval=vals:=by simp only [List.map_toArray,List.map_cons,List.map_nil];rfl)
 (hen: ∀args w,(callFunc F args).run P w= .ok (.enter F args) w:=by exact enters_of rfl (by kernel_rfl) rfl) (hl:ls.setIfInBounds i true=uo:=by simp only [zO,zM,rsE];rfl)
 (ha: ∀r:bE,a.put o.dst (.agg #[.bool r.s,.slice r.a r.k r.c,.slice r.b r.j r.d])=a' r:=by intro r;simp only [Q_,Ra,Rb,zO,zM,rsE,Act.put];rfl) (hr:Region.ready .any ops ls= [i]:=by kernel_rfl):S7 P ops Q (λw=>Ext B0 w) z (n+1) ls a w:=
 zR i (λK' hK=>by
  rw [if_pos hg];exact Vi con ho hv hen λr w' h1 h2 h3=>hK.o _ _ (s.trans h3) λs'=>by rw [ha r];exact h r w' h1 h2 h3 s') ei hl hr
end
open Go.ChangeShapes Go.WideShapes Go.ChangeAt Go.Deep
def Wt {H:Type} (d:DataW H) (t:TypeId):Prop:= ∀k∈d.weights prog t,k<=reachBytes
theorem rS {H:Type} {P:Program} {e:TypeId} {d:DataW H} {n:Nat}: ∀{l:List (DataW H)},d∈l->n∈d.weights P e->n∈DataW.weightsAll P e l
 | [],h,_=>by cases h
 |x::l,h,hn=>by
  simp only [DataW.weightsAll,List.mem_append];rcases List.mem_cons.1 h with rfl|h
  .exact .inl hn
  .exact .inr (rS h hn)
theorem Sq {n:Int} (h:(Lit.int .i64 n).wf=true):dx n:=by
 simp [Lit.wf,IntKind.min,IntKind.max,IntKind.signed,IntKind.bits]at h;unfold dx;omega
section
variable{H:Type} {enc:TypeId×Value->H} {w:World} {base:Nat} {spare:Nat->Bool} {held:Bool}
theorem H' {t:TypeId} {fs:Array Field} {fuel:Nat} {cs:List Value} {x:DataW H×List MemPlace} (ht:prog.underlying t=some (.struct fs)) (h:DataW.trod enc prog w base spare held fuel t cs=some x) (hw:Wt x.1 t):
 cs.length=prog.cellsOf t/\ ∃n,∀(i:Nat) (f:Field),fs[i]?=some f-> ∃y,DataW.trod enc prog w base spare held n f.type ((cs.drop f.offset).take (prog.cellsOf f.type))=some y/\Wt y.1 f.type:=by
 obtain ⟨xs,n,_,rfl,hlen,Nn,hf⟩:=DataW.trod_struct ht h;refine ⟨hlen,n,λi f hi=> ?_⟩;have h1:=hf i f hi;have gu:i<xs.length:=by rw [Nn];exact (Array.getElem?_eq_some_iff.1 hi).1
 rw [List.getElem?_eq_getElem gu]at h1;refine ⟨xs[i],h1,λk hk=>hw k ?_⟩;simp only [DataW.weights,ht];refine DataW.weights_mem_each (j:=i) (t:=f.type) (d:=xs[i].1) ?_ ?_ k hk
 .rw [List.getElem?_map,Array.getElem?_toList,hi];rfl
 .rw [List.getElem?_map,List.getElem?_eq_getElem gu];rfl
theorem M9 {α:Type} (cells:α->List Value) (Q:α->Prop) (d:α) (t e:TypeId) (m:Nat) (ht:prog.underlying t=some (.slice e)) (hm:prog.cellsOf e=m) (LA:0<m) (hlen: ∀r,(cells r).length=m)
 (hel: ∀(n:Nat) (cs:List Value) (y:DataW H×List MemPlace),DataW.trod enc prog w base spare held n e cs=some y->Wt y.1 e-> ∃r:α,cs=cells r/\Q r)
 {fuel:Nat} {v:Value} {x:DataW H×List MemPlace} (h:DataW.trod enc prog w base spare held fuel t [v]=some x) (hw:Wt x.1 t):
 ∃a c rs,v= .slice a (List.length rs) c/\di w m a c (rs.map cells)/\(∀r∈rs,Q r)/\rs.length*prog.bytesOf e<=reachBytes:=by
 rcases open_slice ht h with⟨hcs,_⟩|⟨a,len,cap,k,n,D,Pl,hcs,hb,hl,hcm,LI,rfl,hi⟩
 .simp only [List.cons.injEq,and_true]at hcs
  exact ⟨none,0,[],hcs,⟨cG,ai,λi hi=>absurd hi (Nat.not_lt_zero _)⟩,(λr hr=>by cases hr),aX⟩
 .simp only [List.cons.injEq,and_true]at hcs
  have Hp:len<=k:=by rw [LI];split<;>omega
  have hw2:len*prog.bytesOf e<=reachBytes:=by
   have:=hw ((len+(k-len))*prog.bytesOf e) (by simp [DataW.weights,ht]);exact Nat.le_trans (Nat.mul_le_mul_right _ ae) this
  have hex: ∀i,∃r:α,i<len->w.cells? base (a.add (i*m)) m=some (cells r)/\Q r:=by
   intro i;by_cases gu:i<len
   .obtain ⟨cs',h1,h2⟩:=hi i ae
    rw [hm]at h1
    obtain ⟨r,rfl,h3⟩:=hel n cs' _ h2 (λj hj=>hw j (by
     simp only [DataW.weights,ht];exact List.mem_cons_of_mem _ (List.mem_append.2 (.inl (rS (List.mem_map.2 ⟨i,List.mem_range.2 gu,rfl⟩) hj)))))
    exact ⟨r,λ_=>⟨h1,h3⟩⟩
   .exact ⟨d,λhh=>absurd hh gu⟩
  obtain ⟨R,hR⟩:=Classical.axiomOfChoice hex;refine ⟨some a,cap,(List.range len).map R,by rw [hcs];simp,⟨by simp;exact hl,by unfold maxLen at hcm;omega,?_⟩,?_,by simpa using hw2⟩
  .intro i hi'
   have gu:i<len:=by simpa using hi'
   obtain ⟨h1,-⟩:=hR i gu;obtain ⟨_,UM,hat⟩:=World.cells?_some h1;obtain ⟨b,off,spot⟩:=a
   have hspot:spot=none:=by
    obtain ⟨h0,-⟩:=hR 0 ae;obtain ⟨_,_,UN⟩:=World.cells?_some h0;have:=UN 0 LA;rw [List.getElem?_eq_getElem (by rw [hlen];exact LA)]at this;simp [Addr.add]at this;exact World.cell?_spot this
   subst hspot
   have ik: ∀j,Addr.add (Addr.add ⟨b,off,none⟩ (i*m)) j=⟨b,off+i*m+j,none⟩:=by
    intro j;unfold Addr.add;split<;>split<;>simp_all
   refine ⟨b,off,rfl,λj hj=> ?_⟩;simp only [List.getElem_map,List.getElem_range]at hj⊢;have:=hat j (by rw [hlen]at hj;exact hj);rw [ik,List.getElem?_eq_getElem hj]at this;exact this
  .intro r hr
   obtain ⟨i,hi',rfl⟩:=List.mem_map.1 hr;exact (hR i (List.mem_range.1 hi')).2
set_option maxRecDepth 10000 in
theorem JQ {fuel:Nat} {v:Value} {x:DataW H×List MemPlace} (h:DataW.trod enc prog w base spare held fuel 22 [v]=some x): ∃a c l,v= .slice a (List.length l) c/\bV w a c l:=by
 rcases open_ints underlying22 underlying3 aw h with⟨hcs,_⟩|⟨a,len,cap,zs,hcs,_,hl,hm,hz,_,hcell,Z'⟩
 .simp only [List.cons.injEq,and_true]at hcs
  exact ⟨none,0,[],hcs,cG,ae,λi hi=>absurd hi (Nat.not_lt_zero _),λi hi=>absurd hi (Nat.not_lt_zero _)⟩
 .simp only [List.cons.injEq,and_true]at hcs
  have QH:len<=zs.length:=by rw [hz];split<;>omega
  have QI:(zs.take len).length=len:=by rw [List.length_take];omega
  refine ⟨some a,cap,zs.take len,by rw [hcs,QI],ae,by unfold maxLen at hm;omega,λi hi=> ?_,λi hi=> ?_⟩
  .have hc:=hcell i ae
   obtain ⟨b,off,spot⟩:=a;have hspot:spot=none:=by simpa [Addr.add]using World.cell?_spot (hcell 0 ae)
   subst hspot;refine ⟨b,off,rfl,?_⟩;rw [show(Addr.add ⟨b,off,none⟩ i)=⟨b,off+i,none⟩from by unfold Addr.add;split<;>simp_all]at hc;rw [hc,List.getElem_take];have hi':i<zs.length:=ae;simp [hi']
  .rw [List.getElem_take]
   exact Sq (Z' _ (List.getElem_mem _))
theorem Zs {n k:Nat} (hk:k=24) (h:n*k<=reachBytes):n<=5900000000000:=by
 subst hk;unfold reachBytes at h;omega
theorem M_:prog.cellsOf 9=1:=aw
theorem P8:prog.cellsOf 3=1:=aw
theorem Sr:prog.cellsOf 4=1:=aw
theorem Ss:prog.cellsOf 22=1:=aw
theorem Ll:prog.cellsOf 116=2:=aw
set_option maxRecDepth 10000 in
theorem Na {fuel:Nat} {cs:List Value} {x:DataW H×List MemPlace} (h:DataW.trod enc prog w base spare held fuel 116 cs=some x) (hw:Wt x.1 116): ∃a b:Int,cs= [i64 a,i64 b]/\dx a/\dx b:=by
 obtain ⟨hlen,n,hf⟩:=H' underlying116 h hw;rw [Ll]at hlen
 obtain ⟨c0,c1,rfl⟩: ∃c0 c1,cs= [c0,c1]:=by
  match cs,hlen with
  | [a,b],_=>exact ⟨a,b,rfl⟩
 have g0: ∃y,DataW.trod enc prog w base spare held n 3 (([c0,c1].drop 0).take (prog.cellsOf 3))=some y/\Wt y.1 3:=hf 0 _ rfl;have g1: ∃y,DataW.trod enc prog w base spare held n 3 (([c0,c1].drop 1).take (prog.cellsOf 3))=some y/\Wt y.1 3:=hf 1 _ rfl;rw [P8]at g0 g1;obtain ⟨y0,g0,-⟩:=g0;obtain ⟨y1,g1,-⟩:=g1;obtain ⟨z0,e0,-,f0⟩:=DataW.trod_int underlying3 (show DataW.trod enc prog w base spare held n 3 [c0]=some y0 from g0);obtain ⟨z1,e1,-,f1⟩:=DataW.trod_int underlying3 (show DataW.trod enc prog w base spare held n 3 [c1]=some y1 from g1);simp only [List.cons.injEq,and_true]at e0 e1;subst e0 e1;exact ⟨z0,z1,rfl,Sq f0,Sq f1⟩
section
variable{n k:Nat} {cs:List Value} {c c':Value}
theorem gI (g: ∃y,DataW.trod enc prog w base spare held n 3 ((cs.drop k).take (prog.cellsOf 3))=some y/\Wt y.1 3) (hc:(cs.drop k).take 1= [c]:=by rfl): ∃z,c=i64 z/\dx z:=by
 rw [P8,hc]at g;obtain ⟨y,g,-⟩:=g;obtain ⟨z,e,-,f⟩:=DataW.trod_int underlying3 g;simp only [List.cons.injEq,and_true]at e;exact ⟨z,e,Sq f⟩
theorem gS (g: ∃y,DataW.trod enc prog w base spare held n 9 ((cs.drop k).take (prog.cellsOf 9))=some y/\Wt y.1 9) (hc:(cs.drop k).take 1= [c]:=by rfl): ∃z,c= .string z/\z.size<=maxLen:=by
 rw [M_,hc]at g;obtain ⟨y,g,-⟩:=g;obtain ⟨z,e,-,f⟩:=DataW.trod_string underlying9 g;simp only [List.cons.injEq,and_true]at e;exact ⟨z,e,f⟩
theorem gB (g: ∃y,DataW.trod enc prog w base spare held n 4 ((cs.drop k).take (prog.cellsOf 4))=some y/\Wt y.1 4) (hc:(cs.drop k).take 1= [c]:=by rfl): ∃z,c= .bool z:=by
 rw [Sr,hc]at g;obtain ⟨y,g,-⟩:=g;obtain ⟨z,e,-⟩:=DataW.trod_bool underlying4 g;simp only [List.cons.injEq,and_true]at e;exact ⟨z,e⟩
theorem gF (g: ∃y,DataW.trod enc prog w base spare held n 116 ((cs.drop k).take (prog.cellsOf 116))=some y/\Wt y.1 116) (hc:(cs.drop k).take 2= [c,c']:=by rfl): ∃a b,c=i64 a/\c'=i64 b/\dx a/\dx b:=by
 rw [Ll,hc]at g;obtain ⟨y,g,hw⟩:=g;obtain ⟨a,b,e,f,f'⟩:=Na g hw;simp only [List.cons.injEq,and_true]at e;exact ⟨a,b,e.1,e.2,f,f'⟩
theorem gL (g: ∃y,DataW.trod enc prog w base spare held n 22 ((cs.drop k).take (prog.cellsOf 22))=some y/\Wt y.1 22) (hc:(cs.drop k).take 1= [c]:=by rfl): ∃a m l,c= .slice a (List.length l) m/\bV w a m l:=by
 rw [Ss,hc]at g;obtain ⟨y,g,-⟩:=g;exact JQ g
theorem gR {α:Type} {cells:α->List Value} {Q:α->Prop} {t e:TypeId} (m:Nat) (d:α) (ht:prog.underlying t=some (.slice e)) (hel: ∀(n:Nat) (cs:List Value) (y:DataW H×List MemPlace),DataW.trod enc prog w base spare held n e cs=some y->Wt y.1 e-> ∃r:α,cs=cells r/\Q r)
 (g: ∃y,DataW.trod enc prog w base spare held n t ((cs.drop k).take (prog.cellsOf t))=some y/\Wt y.1 t) (hk:prog.cellsOf t=1:=by kernel_rfl) (hm:prog.cellsOf e=m:=by kernel_rfl) (LA:0<m:=by decide) (hlen: ∀r,(cells r).length=m:=by exact λ_=>rfl) (hc:(cs.drop k).take 1= [c]:=by rfl):
 ∃a q rs,c= .slice a (List.length rs) q/\di w m a q (rs.map cells)/\(∀r∈rs,Q r)/\rs.length*prog.bytesOf e<=reachBytes:=by
 rw [hk,hc]at g;obtain ⟨y,g,hw⟩:=g;exact M9 cells Q d t e m ht hm LA hlen hel g hw
end
theorem P9 {fuel:Nat} {cs:List Value} {x:DataW H×List MemPlace} (h:DataW.trod enc prog w base spare held fuel 89 cs=some x) (hw:Wt x.1 89): ∃r:iQ,cs=r.cells/\(r.name.size<=maxLen/\bV w r.da r.dc r.eE/\dx r.er):=by
 obtain ⟨hlen,n,hf⟩:=H' underlying89 h hw;rw [show prog.cellsOf 89=3 from by kernel_rfl]at hlen;clear h hw;match cs,hlen,hf with
 | [c0,c1,c2],_,hf=>
   obtain ⟨z0,rfl,f0⟩:=gS (k:=0) (hf 0 _ rfl);obtain ⟨a1,k1,l1,rfl,f1⟩:=gL (k:=1) (hf 1 _ rfl);obtain ⟨z2,rfl,f2⟩:=gI (k:=2) (hf 2 _ rfl);exact ⟨⟨z0,a1,k1,l1,z2⟩,rfl,⟨f0,f1,f2⟩⟩
def adL:iQ:=⟨.empty,none,0,[],0⟩
theorem Nb {fuel:Nat} {cs:List Value} {x:DataW H×List MemPlace} (h:DataW.trod enc prog w base spare held fuel 213 cs=some x) (hw:Wt x.1 213): ∃r:cX,cs=r.cells/\(r.name.size<=maxLen/\bV w r.aa r.ac r.away/\lq [r.fQ,r.qZ,r.rn,r.rd,r.Qp,r.S4,r.Qq,r.S5,r.tE,r.FK]):=by
 obtain ⟨hlen,n,hf⟩:=H' underlying213 h hw;rw [show prog.cellsOf 213=12 from by kernel_rfl]at hlen;clear h hw;match cs,hlen,hf with
 | [c0,c1,c2,c3,c4,c5,c6,c7,c8,c9,c10,c11],_,hf=>
   obtain ⟨z0,rfl,f0⟩:=gS (k:=0) (hf 0 _ rfl);obtain ⟨z1,rfl,f1⟩:=gI (k:=1) (hf 1 _ rfl);obtain ⟨z2,rfl,f2⟩:=gI (k:=2) (hf 2 _ rfl);obtain ⟨z3,y3,rfl,rfl,f3,g3⟩:=gF (k:=3) (hf 3 _ rfl);obtain ⟨z4,y4,rfl,rfl,f4,g4⟩:=gF (k:=5) (hf 4 _ rfl);obtain ⟨z5,y5,rfl,rfl,f5,g5⟩:=gF (k:=7) (hf 5 _ rfl);obtain ⟨z6,rfl,f6⟩:=gI (k:=9) (hf 6 _ rfl);obtain ⟨z7,rfl,f7⟩:=gI (k:=10) (hf 7 _ rfl);obtain ⟨a8,k8,l8,rfl,f8⟩:=gL (k:=11) (hf 8 _ rfl);exact ⟨⟨z0,z1,z2,z3,y3,z4,y4,z5,y5,z6,z7,a8,k8,l8⟩,rfl,⟨f0,f8,(by simp [lq,f1,f2,f3,g3,f4,g4,f5,g5,f6,f7])⟩⟩
def Zt:cX:=⟨.empty,0,0,0,0,0,0,0,0,0,0,none,0,[]⟩
theorem P_ {fuel:Nat} {cs:List Value} {x:DataW H×List MemPlace} (h:DataW.trod enc prog w base spare held fuel 87 cs=some x) (hw:Wt x.1 87): ∃r:iI,cs=r.cells/\lq [r.width,r.gm]:=by
 obtain ⟨hlen,n,hf⟩:=H' underlying87 h hw;rw [show prog.cellsOf 87=2 from by kernel_rfl]at hlen;clear h hw;match cs,hlen,hf with
 | [c0,c1],_,hf=>
   obtain ⟨z0,rfl,f0⟩:=gI (k:=0) (hf 0 _ rfl);obtain ⟨z1,rfl,f1⟩:=gI (k:=1) (hf 1 _ rfl);exact ⟨⟨z0,z1⟩,rfl,(by simp [lq,f0,f1])⟩
def adM:iI:=⟨0,0⟩
theorem Nc {fuel:Nat} {cs:List Value} {x:DataW H×List MemPlace} (h:DataW.trod enc prog w base spare held fuel 51 cs=some x) (hw:Wt x.1 51): ∃r:cw,cs=r.cells/\(r.name.size<=maxLen/\bV w r.aa r.ac r.away/\di w 2 r.sa r.sc (r.bR.map iI.cells)/\(∀s∈r.bR,lq [s.width,s.gm])/\lq [r.fc,r.min,r.max,r.mA,r.mB,r.iW,r.gV,r.iX,r.mC,r.iY,r.startTime,r.j_,r.iZ,r.ja,r.bC,r.ez,r.state,r.hours,r.output]):=by
 obtain ⟨hlen,n,hf⟩:=H' underlying51 h hw;rw [show prog.cellsOf 51=22 from by kernel_rfl]at hlen;clear h hw;match cs,hlen,hf with
 | [c0,c1,c2,c3,c4,c5,c6,c7,c8,c9,c10,c11,c12,c13,c14,c15,c16,c17,c18,c19,c20,c21],_,hf=>
   obtain ⟨z0,rfl,f0⟩:=gS (k:=0) (hf 0 _ rfl);obtain ⟨z1,rfl,f1⟩:=gI (k:=1) (hf 1 _ rfl);obtain ⟨z2,rfl,f2⟩:=gI (k:=2) (hf 2 _ rfl);obtain ⟨z3,rfl,f3⟩:=gI (k:=3) (hf 3 _ rfl);obtain ⟨a4,k4,l4,rfl,f4,q4,b4⟩:=gR (cells:=iI.cells) 2 adM underlying49 (λ_ _ _ h hw=>P_ h hw) (k:=4) (hf 4 _ rfl);obtain ⟨z5,rfl,f5⟩:=gI (k:=5) (hf 5 _ rfl);obtain ⟨z6,rfl,f6⟩:=gI (k:=6) (hf 6 _ rfl);obtain ⟨z7,rfl,f7⟩:=gI (k:=7) (hf 7 _ rfl);obtain ⟨z8,rfl,f8⟩:=gI (k:=8) (hf 8 _ rfl);obtain ⟨z9,rfl,f9⟩:=gI (k:=9) (hf 9 _ rfl);obtain ⟨Qj,rfl,f10⟩:=gI (k:=10) (hf 10 _ rfl);obtain ⟨z11,rfl,f11⟩:=gI (k:=11) (hf 11 _ rfl);obtain ⟨z12,rfl,f12⟩:=gI (k:=12) (hf 12 _ rfl);obtain ⟨z13,rfl,f13⟩:=gI (k:=13) (hf 13 _ rfl);obtain ⟨z14,rfl,f14⟩:=gI (k:=14) (hf 14 _ rfl);obtain ⟨z15,rfl,f15⟩:=gI (k:=15) (hf 15 _ rfl);obtain ⟨z16,rfl,f16⟩:=gI (k:=16) (hf 16 _ rfl);obtain ⟨z17,rfl,f17⟩:=gI (k:=17) (hf 17 _ rfl);obtain ⟨a18,k18,l18,rfl,f18⟩:=gL (k:=18) (hf 18 _ rfl);obtain ⟨z19,rfl,f19⟩:=gI (k:=19) (hf 19 _ rfl);obtain ⟨z20,rfl,f20⟩:=gI (k:=20) (hf 20 _ rfl);obtain ⟨z21,rfl,f21⟩:=gI (k:=21) (hf 21 _ rfl);exact ⟨⟨z0,z1,z2,z3,a4,k4,l4,z5,z6,z7,z8,z9,Qj,z11,z12,z13,z14,z15,z16,z17,a18,k18,l18,z19,z20,z21⟩,rfl,⟨f0,f18,f4,q4,(by simp [lq,f1,f2,f3,f5,f6,f7,f8,f9,f10,f11,f12,f13,f14,f15,f16,f17,f19,f20,f21])⟩⟩
def Zw:cw:=⟨.empty,0,0,0,none,0,[],0,0,0,0,0,0,0,0,0,0,0,0,0,none,0,[],0,0,0⟩
theorem JR {fuel:Nat} {cs:List Value} {x:DataW H×List MemPlace} (h:DataW.trod enc prog w base spare held fuel 118 cs=some x) (hw:Wt x.1 118): ∃r:cI,cs=r.cells/\(r.name.size<=maxLen/\lq [r.fc,r.capacity,r.initial,r.final,r.cB,r.discharge,r.en,r.ed]):=by
 obtain ⟨hlen,n,hf⟩:=H' underlying118 h hw;rw [show prog.cellsOf 118=9 from by kernel_rfl]at hlen;clear h hw;match cs,hlen,hf with
 | [c0,c1,c2,c3,c4,c5,c6,c7,c8],_,hf=>
   obtain ⟨z0,rfl,f0⟩:=gS (k:=0) (hf 0 _ rfl);obtain ⟨z1,rfl,f1⟩:=gI (k:=1) (hf 1 _ rfl);obtain ⟨z2,rfl,f2⟩:=gI (k:=2) (hf 2 _ rfl);obtain ⟨z3,rfl,f3⟩:=gI (k:=3) (hf 3 _ rfl);obtain ⟨z4,rfl,f4⟩:=gI (k:=4) (hf 4 _ rfl);obtain ⟨z5,rfl,f5⟩:=gI (k:=5) (hf 5 _ rfl);obtain ⟨z6,rfl,f6⟩:=gI (k:=6) (hf 6 _ rfl);obtain ⟨z7,y7,rfl,rfl,f7,g7⟩:=gF (k:=7) (hf 7 _ rfl);exact ⟨⟨z0,z1,z2,z3,z4,z5,z6,z7,y7⟩,rfl,⟨f0,(by simp [lq,f1,f2,f3,f4,f5,f6,f7,g7])⟩⟩
def V9:cI:=⟨.empty,0,0,0,0,0,0,0,0⟩
theorem Qa {fuel:Nat} {cs:List Value} {x:DataW H×List MemPlace} (h:DataW.trod enc prog w base spare held fuel 120 cs=some x) (hw:Wt x.1 120): ∃r:gY,cs=r.cells/\(r.name.size<=maxLen/\bV w r.ia r.ic r.imp/\bV w r.ea r.ec r.exp/\bV w r.pa r.pc r.gm/\dx r.fc):=by
 obtain ⟨hlen,n,hf⟩:=H' underlying120 h hw;rw [show prog.cellsOf 120=5 from by kernel_rfl]at hlen;clear h hw;match cs,hlen,hf with
 | [c0,c1,c2,c3,c4],_,hf=>
   obtain ⟨z0,rfl,f0⟩:=gS (k:=0) (hf 0 _ rfl);obtain ⟨z1,rfl,f1⟩:=gI (k:=1) (hf 1 _ rfl);obtain ⟨a2,k2,l2,rfl,f2⟩:=gL (k:=2) (hf 2 _ rfl);obtain ⟨a3,k3,l3,rfl,f3⟩:=gL (k:=3) (hf 3 _ rfl);obtain ⟨a4,k4,l4,rfl,f4⟩:=gL (k:=4) (hf 4 _ rfl);exact ⟨⟨z0,z1,a2,k2,l2,a3,k3,l3,a4,k4,l4⟩,rfl,⟨f0,f2,f3,f4,f1⟩⟩
def adN:gY:=⟨.empty,0,none,0,[],none,0,[],none,0,[]⟩
theorem Nd {fuel:Nat} {cs:List Value} {x:DataW H×List MemPlace} (h:DataW.trod enc prog w base spare held fuel 107 cs=some x) (hw:Wt x.1 107): ∃r:cH,cs=r.cells/\lq [r.unit,r.up,r.down]:=by
 obtain ⟨hlen,n,hf⟩:=H' underlying107 h hw;rw [show prog.cellsOf 107=3 from by kernel_rfl]at hlen;clear h hw;match cs,hlen,hf with
 | [c0,c1,c2],_,hf=>
   obtain ⟨z0,rfl,f0⟩:=gI (k:=0) (hf 0 _ rfl);obtain ⟨z1,rfl,f1⟩:=gI (k:=1) (hf 1 _ rfl);obtain ⟨z2,rfl,f2⟩:=gI (k:=2) (hf 2 _ rfl);exact ⟨⟨z0,z1,z2⟩,rfl,(by simp [lq,f0,f1,f2])⟩
def Zx:cH:=⟨0,0,0⟩
theorem Hl {fuel:Nat} {cs:List Value} {x:DataW H×List MemPlace} (h:DataW.trod enc prog w base spare held fuel 105 cs=some x) (hw:Wt x.1 105): ∃r:ee,cs=r.cells/\((r.name.size<=maxLen/\bV w r.la r.lc r.lines/\di w 3 r.ma r.mc (r.moves.map cH.cells)/\ ∀m∈r.moves,lq [m.unit,m.up,m.down])/\r.moves.length<=5900000000000):=by
 obtain ⟨hlen,n,hf⟩:=H' underlying105 h hw;rw [show prog.cellsOf 105=4 from by kernel_rfl]at hlen;clear h hw;match cs,hlen,hf with
 | [c0,c1,c2,c3],_,hf=>
   obtain ⟨z0,rfl,f0⟩:=gS (k:=0) (hf 0 _ rfl);obtain ⟨a1,k1,l1,rfl,f1⟩:=gL (k:=1) (hf 1 _ rfl);obtain ⟨z2,rfl⟩:=gB (k:=2) (hf 2 _ rfl);obtain ⟨a3,k3,l3,rfl,f3,q3,b3⟩:=gR (cells:=cH.cells) 3 Zx underlying103 (λ_ _ _ h hw=>Nd h hw) (k:=3) (hf 3 _ rfl);exact ⟨⟨z0,a1,k1,l1,z2,a3,k3,l3⟩,rfl,⟨⟨f0,f1,f3,q3⟩,Zs aw b3⟩⟩
def Su:ee:=⟨.empty,none,0,[],false,none,0,[]⟩
theorem Nf {fuel:Nat} {cs:List Value} {x:DataW H×List MemPlace} (h:DataW.trod enc prog w base spare held fuel 30 cs=some x) (hw:Wt x.1 30): ∃r:aq,cs=r.cells/\(bK w r/\ ∀o∈r.outs,o.moves.length<=5900000000000):=by
 obtain ⟨hlen,n,hf⟩:=H' underlying30 h hw;rw [show prog.cellsOf 30=8 from by kernel_rfl]at hlen;clear h hw;match cs,hlen,hf with
 | [c0,c1,c2,c3,c4,c5,c6,c7],_,hf=>
   obtain ⟨z0,rfl,f0⟩:=gI (k:=0) (hf 0 _ rfl);obtain ⟨a1,k1,l1,rfl,f1⟩:=gL (k:=1) (hf 1 _ rfl);obtain ⟨a2,k2,l2,rfl,f2,q2,b2⟩:=gR (cells:=iQ.cells) 3 adL underlying23 (λ_ _ _ h hw=>P9 h hw) (k:=2) (hf 2 _ rfl);obtain ⟨a3,k3,l3,rfl,f3,q3,b3⟩:=gR (cells:=cX.cells) 12 Zt underlying24 (λ_ _ _ h hw=>Nb h hw) (k:=3) (hf 3 _ rfl);obtain ⟨a4,k4,l4,rfl,f4,q4,b4⟩:=gR (cells:=cw.cells) 22 Zw underlying25 (λ_ _ _ h hw=>Nc h hw) (k:=4) (hf 4 _ rfl);obtain ⟨a5,k5,l5,rfl,f5,q5,b5⟩:=gR (cells:=cI.cells) 9 V9 underlying26 (λ_ _ _ h hw=>JR h hw) (k:=5) (hf 5 _ rfl);obtain ⟨a6,k6,l6,rfl,f6,q6,b6⟩:=gR (cells:=gY.cells) 5 adN underlying27 (λ_ _ _ h hw=>Qa h hw) (k:=6) (hf 6 _ rfl);obtain ⟨a7,k7,l7,rfl,f7,q7,b7⟩:=gR (cells:=ee.cells) 4 Su underlying28 (λ_ _ _ h hw=>Hl h hw) (k:=7) (hf 7 _ rfl);exact ⟨⟨z0,a1,k1,l1,a2,k2,l2,a3,k3,l3,a4,k4,l4,a5,k5,l5,a6,k6,l6,a7,k7,l7⟩,rfl,⟨⟨f0,f1,f2,q2,f3,q3,f4,q4,f5,q5,f6,q6,f7,λo ho=>(q7 o ho).1⟩,λo ho=>(q7 o ho).2⟩⟩
end
