/- Texts of the proof. -/
import Derived.Test.YtbnamicbjaaelaaGreatCg36
set_option linter.all false
set_option maxHeartbeats 4000000
set_option maxRecDepth 100000
namespace Go.Proofs.YtbnamicbjaaelaaGreat
open Go.Proofs.Tryz
open Go.RowKit
def iJ (gb:Nat):List Value:= [.string {data:= #[103]},i64 0,i64 10,i64 20,.slice (some ⟨gb,0,none⟩) 1 1,i64 7,i64 20,i64 20,i64 20,i64 20,i64 1,i64 1,i64 0,i64 0,i64 0,i64 1,i64 0,i64 0,.slice none 0 0,i64 2,i64 1,i64 15]
def lH (rb bb ub:Nat):List Value:= [i64 1,.slice (some ⟨rb,0,none⟩) 1 1,.slice (some ⟨bb,0,none⟩) 1 1,.slice none 0 0,.slice (some ⟨ub,0,none⟩) 1 1,.slice none 0 0,.slice none 0 0,.slice none 0 0]
section
variable{P:Program}
theorem Cb {ops:Array Oper} {rest:List Oper} {o:Oper} {a:Act} {w:World} {Q:Exit->Act->World->Prop} (hgd:o.guard=none) (t:TypeId) (parts:Array (Nat×Operand)) (ho:o.op= .build t parts) (vals:List (Nat×Value)) (cs:List Value)
 (hv:(parts.map λ(i,x)=>(i,a.eval x)).toList=vals) (hb:P.built t vals=some cs.toArray) (h:wpList P ops Q rest (a.put o.dst (.agg cs.toArray)) w):wpList P ops Q (o::rest) a w:=
 wpList_plain hgd λK hK=>tv t parts ho vals cs hv hb (hK _ _ h)
end
section
variable{P:Program}
theorem jd {o:Oper} {a:Act} {w:World} (ty:TypeId) (x:Operand) (ho:o.op= .load ty x) (p:Addr) (hx:a.eval x= .pointer (some p)) (cs:List Value) (d:TypeDesc) (hc: ∀j v,cs[j]?=some v->w.cell? (p.add j)=some v)
 (hu:P.underlying ty=some d) (hd:(match d with| .struct _| .array _ _=>true|_=>false)=true) (hi:(P.info? ty).map (·.size)=some cs.length):(execOp a.eval o).run P w= .ok (.value (.agg cs.toArray)) w:=by
 unfold execOp;simp only [ho,hx,Instr.loadAt,Instr.sureAddr,Sem.run_bind,Sem.run_pure,Result.andThen_ok,f_ w p ty cs d hc hu hd hi]
theorem fN {o:Oper} {a:Act} {w:World} {Q:Exit->Act->World->Prop} {K:Act->World->Prop} (ty:TypeId) (x y:Operand) (ho:o.op= .store ty x y)
 (R:Nat) (cs cs':List Value) (hA:aT w R ty cs) (hx:a.eval x= .pointer (some ⟨R,0,none⟩)) (hy:a.eval y= .agg cs'.toArray) (hi:(P.info? ty).map (·.size)=some cs'.length) (hold:cs.length=cs'.length) (h1:cs'.all (·.oneCell')=true)
 (h: ∀w',aT w' R ty cs'->aB R w w'->K (a.put o.dst undef) w'):Oper.wp P o a w K Q:=by
 have hr:=run_storeVar_row (P:=P) w R ty ty cs.toArray cs'.toArray hA (by simpa using hi) (by simpa using hold) (by simpa using h1);unfold Oper.wp execOp;simp only [ho,hx,hy,Instr.storeAt,Instr.sureAddr,Sem.run_bind,Sem.run_pure,Result.andThen_ok,hr];refine h _ ?_ ?_
 .exact setRow_heap w R cs.toArray cs'.toArray ty (0,0) hA
 .refine ⟨rfl,rfl,rfl,Nat.le_refl _,by simp [World.setRow],λk hk hne=> ?_⟩
  simp [World.setRow,Array.getElem?_modify,Ne.symm hne]
end
theorem Tryz.info_unitE:(Tryz.prog.info? 55).map (λi=>(i.zero,i.size,i.bytes))=some (some (.agg kp.cells.toArray),22,216):=by kernel_rfl
theorem Cc {P:Program} {fn:Func} {tmps:Array Value} {w:World} {R R2:Nat} {ty Xx:TypeId} {cs Zx:List Value} (k k2:Nat) (d d2:TypeDesc) (hres:fn.results= #[.cell k ty,.cell k2 Xx]) (ht:tmps.getD k undef= .pointer (some ⟨R,0,none⟩)) (ht2:tmps.getD k2 undef= .pointer (some ⟨R2,0,none⟩)) (hA:aT w R ty cs) (Zw:aT w R2 Xx Zx)
 (hu:P.underlying ty=some d) (Yl:P.underlying Xx=some d2) (hd:(match d with| .struct _| .array _ _=>true|_=>false)=true) (J9:(match d2 with| .struct _| .array _ _=>true|_=>false)=true) (hi:(P.info? ty).map (·.size)=some cs.length) (Qi:(P.info? Xx).map (·.size)=some Zx.length):(results fn tmps).run P w= .ok (.tuple #[.agg cs.toArray,.agg Zx.toArray]) w:=by
 have h:=f_ (P:=P) w ⟨R,0,none⟩ ty cs d (λj v hj=>by rw [fj,hA.cell j];exact hj) hu hd hi;have h2:=f_ (P:=P) w ⟨R2,0,none⟩ Xx Zx d2 (λj v hj=>by rw [fj,Zw.cell j];exact hj) Yl J9 Qi;simp only [results,hres];simp only [Array.getD_eq_getD_getElem?]at ht ht2;simp [ht,ht2,asAddr,h,h2]
theorem ME {w:World} {B:Nat} {e:TypeId} {ga:Option Addr} {gc:Nat} {row:List Value} (h:aL w B e 3 (.slice ga 1 gc) [row]): ∃(g:Nat) (p0 p1 p2:Value) (sp:List Value),ga=some ⟨g,0,none⟩/\B<=g/\aT w g e (p0::p1::p2::sp):=by
 have hl:=h.len row (by simp);rcases h.own.2 with⟨h0,-⟩|⟨g,cap,cur,hv,hb,hc,hn,dS,hcs,ht⟩
 .simp at h0
 .simp only [Value.slice.injEq]at hv
  obtain ⟨rfl,-,-⟩:=hv;match row,hl with
  | [p0,p1,p2],_=>
    have h3:cur.toList.take 3= [p0,p1,p2]:=by simpa using ht
    refine ⟨g,p0,p1,p2,cur.toList.drop 3,rfl,hb,?_⟩
    have h4:cur=(p0::p1::p2::cur.toList.drop 3).toArray:=by
     apply Array.toList_inj.1;have:=List.take_append_drop 3 cur.toList;rw [h3]at this;simpa using this.symm
    show w.heap[g]?=_;rw [hc];congr
theorem Gv (V:World):
 Calls prog 80 #[] V λe w'=> ∃(gb rb db bb ub:Nat) (sv:List Value),e= .returned (.tuple #[.agg (lH rb bb ub).toArray,.agg sv.toArray])/\sv.length=8/\sv.all (·.oneCell')=true/\(V.heap.size<=gb/\gb<rb/\rb<db/\db<bb/\bb<ub)/\aT w' gb 110 [i64 10,i64 2]/\aT w' rb 3 [i64 0]/\aT w' db 3 [i64 15]/\aT w' bb 62 [.string {data:= #[97]},.slice (some ⟨db,0,none⟩) 1 1,i64 0]/\aT w' ub 55 (iJ gb)/\Ext V w':=by
 go_enter func80,ntmps80
 go_upto_region 1 with fail
 obtain ⟨W0,hW,x0,Z0,A0,A1⟩:=dZ V 32 kG.cells 136 kB;rw [show(V.alloc (.cells #[i64 0,.slice none 0 0,.slice none 0 0,.slice none 0 0,.slice none 0 0,.slice none 0 0,.slice none 0 0,.slice none 0 0] 32)).alloc (.cells #[.slice none 0 0,.slice none 0 0,.slice none 0 0,.slice none 0 0,.slice none 0 0,.slice none 0 0,.slice none 0 0,.slice none 0 0] 136)=W0 from hW.symm];obtain ⟨C,hC⟩: ∃C,C=V.heap.size:=⟨_,rfl⟩;obtain ⟨S,hS⟩: ∃S,S=C+1:=⟨_,rfl⟩;have hz0:=Z0.o;rw [<-hC]at A0 A1⊢;rw [<-hS]at A1⊢;have NB:Hid (V.heap.size<=C/\C<S/\V.heap.size<=S/\S<W0.heap.size):=by(show _/\_/\_/\_;omega)
 have HC:=ah A0;have HS:=ah A1;have HX:=ah x0
 clear hW x0 Z0 A0 A1 hC hS hz0;iterate 7 go_step
 obtain ⟨W1,hW,x1,-,A1⟩:=aV W0 110 [i64 10,i64 2];rw [show W0.alloc (.cells #[i64 10,i64 2] 110)=W1 from hW.symm];obtain ⟨gb,hgb⟩: ∃gb,gb=W0.heap.size:=⟨_,rfl⟩;rw [<-hgb]at A1⊢;have Xu:Hid (W0.heap.size<=gb/\gb<W1.heap.size):=⟨by show _<=_;omega,A1.lt⟩;have HG1:=ah A1;have eC:=ah x1
 clear hW x1 A1 hgb;go_upto_region 2 with(first|(refine Cb rfl 55 _ rfl [(0,.string {data:= #[103]}),(2,i64 10),(3,i64 20),(4,.slice (some ⟨gb,0,none⟩) 1 1),(5,i64 7),(8,i64 20),(9,i64 20),(6,i64 20),(7,i64 20),(10,i64 1),(11,i64 1),(15,i64 1),(19,i64 2),(20,i64 1),(21,i64 15)] (iJ gb) (by simp [Act.eval]) (by kernel_rfl) ?_)|(refine bP rfl 55 _ _ rfl kp.cells (iJ gb) rfl rfl (by kernel_rfl) rfl rfl ?_))
 obtain ⟨W2,hW,x2,-,A2⟩:=aV W1 55 (iJ gb);rw [show W1.alloc (.cells (iJ gb).toArray 55)=W2 from hW.symm];obtain ⟨P,hP⟩: ∃P,P=W1.heap.size:=⟨_,rfl⟩;rw [<-hP]at A2⊢;have HU:=ah A2;have eR:=ah x2
 clear hW x2 A2 hP;iterate 13 go_step
 obtain ⟨W3,hW,x3,Z3,A0,A1,A2⟩:=fC W2 3 [i64 0] 3 [i64 15] 62 [.string {data:= #[97]},.slice (some ⟨W2.heap.size+1,0,none⟩) 1 1,i64 0];rw [show((W2.alloc (.cells #[i64 0] 3)).alloc (.cells #[i64 15] 3)).alloc (.cells #[.string {data:= #[97]},.slice (some ⟨W2.heap.size+1,0,none⟩) 1 1,i64 0] 62)=W3 from hW.symm];obtain ⟨rb,GS⟩: ∃rb,rb=W2.heap.size:=⟨_,rfl⟩;obtain ⟨db,J4⟩: ∃db,db=rb+1:=⟨_,rfl⟩;obtain ⟨bb,Tw⟩: ∃bb,bb=rb+2:=⟨_,rfl⟩;rw [<-GS]at A0 A1 A2⊢;rw [<-J4]at A1 A2⊢;rw [<-Tw]at A2;first|rw [<-Tw]|rw [show db+1=bb by omega]
 have hg1:=HG1.o.lt;have hg2:=eR.o.size
 have OT:Hid (gb<rb/\rb<db/\db<bb):=by(show _/\_/\_;omega)
 have kR:=ah x3;have HR:=ah A0;have HD:=ah A1;have qB:=ah A2
 replace HU:=ah (HU.o.ext x3);clear hW x3 Z3 A0 A1 A2 GS J4 Tw hg1 hg2;have ug: ∀j v,(iJ gb)[j]?=some v->W3.cell? ((⟨P,0,none⟩:Addr).add j)=some v:=λj v hj=>by rw [fj,HU.o.cell j];exact hj
 refine br rfl 55 _ rfl ⟨P,0,none⟩ rfl (iJ gb) _ ug rfl rfl (by kernel_rfl) ?_;refine ij rfl 27 _ rfl 55 (.agg kp.cells.toArray) 22 216 underlying27 Tryz.info_unitE (by decide) (by decide) (iJ gb) rfl rfl ?_;intro W4 G7 x4;obtain ⟨ub,hub⟩: ∃ub,ub=W3.heap.size:=⟨_,rfl⟩;rw [<-hub]at G7⊢;have hb4:=qB.o.lt;have SB:Hid (bb<ub/\P<W4.heap.size):=by(have:=(HU.o.ext x4).lt;show _/\_;omega)
 have HN:=ah G7;have pV:=ah x4
 clear ug G7 x4 hub hb4;go_upto_region 3 with(refine bP rfl 32 _ _ rfl kG.cells (lH rb bb ub) rfl rfl (by kernel_rfl) rfl rfl ?_)
 obtain ⟨W5,hW,x5,-,A5⟩:=aV W4 32 (lH rb bb ub);rw [show W4.alloc (.cells (lH rb bb ub).toArray 32)=W5 from hW.symm];obtain ⟨Q,hQ⟩: ∃Q,Q=W4.heap.size:=⟨_,rfl⟩;rw [<-hQ]at A5⊢
 have IG:Hid (ub<Q/\S<Q/\C<Q):=by
  have h1:=HN.o.lt;have h2:=HS.o.lt;have h3:=eC.o.size;have h4:=eR.o.size;have h5:=kR.o.size;have h6:=pV.o.size;have h7:=NB.o
  show _/\_/\_;omega
 have HQ:=ah A5;have lW:=ah x5;have LM:=ah A5.lt
 have lK:=ah (λU=>Gs U (.slice (some ⟨rb,0,none⟩) 1 1) (.slice none 0 0) (some ⟨bb,0,none⟩) none (some ⟨ub,0,none⟩) none none 1 0 1 0 0);have UG:=A5.adds;clear hW x5 A5 hQ;go_wp2_with (first|(refine br rfl 32 _ rfl ⟨Q,0,none⟩ rfl (lH rb bb ub) _ UG rfl rfl (by kernel_rfl) ?_))
 refine (lK.o W5).mono ?_;rintro e W6 ⟨ga,gc,v2,rfl,⟨row,hrow⟩,hv2,x6⟩;clear UG lK;obtain ⟨g,p0,p1,p2,sp,rfl,hg5,hG⟩:=ME hrow;have Io:=ah hv2;have HG:=ah hG
 have Hp:Hid (W5.heap.size<=g/\g<W6.heap.size):=⟨hg5,hG.lt⟩;have FT:=ah x6;clear hrow hv2 hg5 hG x6;go_upto_region 4 with(refine bP rfl 136 _ _ rfl kB [.slice (some ⟨g,0,none⟩) 1 gc,.slice none 0 0,.slice none 0 0,.slice none 0 0,.slice none 0 0,v2,.slice none 0 0,.slice none 0 0] rfl rfl (by kernel_rfl) rfl (by simp only [List.all_cons,List.all_nil,Io.o];rfl) ?_)
 obtain ⟨W7,hW,x7,-,A7⟩:=aV W6 136 [.slice (some ⟨g,0,none⟩) 1 gc,.slice none 0 0,.slice none 0 0,.slice none 0 0,.slice none 0 0,v2,.slice none 0 0,.slice none 0 0];rw [show W6.alloc (.cells #[.slice (some ⟨g,0,none⟩) 1 gc,.slice none 0 0,.slice none 0 0,.slice none 0 0,.slice none 0 0,v2,.slice none 0 0,.slice none 0 0] 136)=W7 from hW.symm];obtain ⟨Sb,hSb⟩: ∃Sb,Sb=W6.heap.size:=⟨_,rfl⟩;rw [<-hSb]at A7 Hp⊢;have HB:=ah A7;have Ns:=ah (FT.o.trans x7)
 replace HG:=ah (HG.o.ext x7);have Qk:Hid (g≠Sb/\W5.heap.size<=Sb):=by(have:=Hp.o;show _/\_;omega)
 clear hW x7 A7 hSb;have RS:Hid (∀U,Calls prog 47 #[i64 15] U λe w'=> ∃(s:Bool) (a:Option Addr) (k c:Nat) (b:Option Addr) (j d:Nat),e= .returned (.agg #[.bool s,.slice a k c,.slice b j d])/\Ext U w'):=λU=>(wZ U 15 (by decide) (by decide)).mono λe w' ⟨_,_,_,_,h,_,_,_,_,hx⟩=>⟨_,_,_,_,_,_,_,h,hx⟩;have HZE:Hid (∀U,Calls prog 97 #[] U λe w'=> ∃(s:Bool) (a:Option Addr) (k c:Nat) (b:Option Addr) (j d:Nat),e= .returned (.agg #[.bool s,.slice a k c,.slice b j d])/\Ext U w'):=λU=>(vS U).mono λe w' ⟨_,_,_,_,h,_,_,_,_,hx⟩=>⟨_,_,_,_,_,_,_,h,hx⟩
 refine rX [some 17,some 18,some 19,some 20,some 21,some 22,some 23,some 24] (λi v _=>match i with
  |0=>v= .pointer (some ⟨Sb,0,none⟩)
  |1=>v= .slice (some ⟨g,0,none⟩) 1 gc
  |3|5=> ∃(s:Bool) (a:Option Addr) (k c:Nat) (b:Option Addr) (j d:Nat),v= .agg #[.bool s,.slice a k c,.slice b j d]
  |7=> ∃B C D:Nat,v= .agg #[.slice (some ⟨B,0,none⟩) 1 1,.slice (some ⟨C,0,none⟩) 1 1,.slice (some ⟨D,0,none⟩) 1 1]
  |_=> ∃B:Nat,v= .slice (some ⟨B,0,none⟩) 1 1) (λw=>Ext W7 w) (λf=>by simp only [pG,sS,Act.put];rfl) (by kernel_rfl) (by kernel_rfl) (by decide) (by rfl) (λ_ _ _ _ _ h=>h) (Ext.refl W7).drew ?step ?rest
 case step=>
  refine fK.take rfl (λf w hG hd=>⟨.pointer (some ⟨Sb,0,none⟩),by go_simp,rfl⟩) (fK.take rfl (λf w hG hd=>⟨.slice (some ⟨g,0,none⟩) 1 gc,?_,rfl⟩) (fK.cons rfl (λf w hG hd K hK=> ?_) (fK.cons rfl (λf w hG hd K hK=> ?_) (fK.cons rfl (λf w hG hd K hK=> ?_) (fK.cons rfl (λf w hG hd K hK=> ?_) (fK.cons rfl (λf w hG hd K hK=> ?_) (fK.take rfl (λf w hG hd=> ?_) fK.nil)))))))
  .have e0:w.cell? ⟨Sb,0,none⟩=some (.slice (some ⟨g,0,none⟩) 1 gc):=((HB.o.ext hG).cell 0).trans rfl
   have d0:f 0= .pointer (some ⟨Sb,0,none⟩):=hd ⟨0,.data⟩ (by simp) rfl;go_simp
  .go_simp
   obtain ⟨Y,hW,xa,-,-⟩:=aV w 3 [i64 2];rw [show w.alloc (.cells #[i64 2] 3)=Y from hW.symm];exact hK.o _ _ (hG.trans xa) ⟨_,rfl⟩ (λ_ _ _ _ h=>h)
  .go_simp
   refine (RS.o w).mono ?_;rintro e Y ⟨s,a,k,c,b,j,d,rfl,xa⟩;exact hK.o _ _ (hG.trans xa) ⟨_,_,_,_,_,_,_,rfl⟩ (λ_ _ _ _ h=>h)
  .obtain ⟨s,a,k,c,b,j,d,d3⟩: ∃(s:Bool) (a:Option Addr) (k c:Nat) (b:Option Addr) (j d:Nat),f 3= .agg #[.bool s,.slice a k c,.slice b j d]:=hd ⟨3,.data⟩ (by simp) rfl
   refine dM 46 (.tmp 20) rfl 92 (.agg kh.toArray) 3 56 underlying46 Tryz.info_rat (by decide) (by decide) [.bool s,.slice a k c,.slice b j d] d3 rfl ?_;intro Y _ xa;exact hK.o _ _ (hG.trans xa) ⟨_,rfl⟩ (λ_ _ _ _ h=>h)
  .go_simp
   refine (HZE.o w).mono ?_;rintro e Y ⟨s,a,k,c,b,j,d,rfl,xa⟩;exact hK.o _ _ (hG.trans xa) ⟨_,_,_,_,_,_,_,rfl⟩ (λ_ _ _ _ h=>h)
  .obtain ⟨s,a,k,c,b,j,d,d3⟩: ∃(s:Bool) (a:Option Addr) (k c:Nat) (b:Option Addr) (j d:Nat),f 5= .agg #[.bool s,.slice a k c,.slice b j d]:=hd ⟨5,.data⟩ (by simp) rfl
   refine dM 46 (.tmp 22) rfl 92 (.agg kh.toArray) 3 56 underlying46 Tryz.info_rat (by decide) (by decide) [.bool s,.slice a k c,.slice b j d] d3 rfl ?_;intro Y _ xa;exact hK.o _ _ (hG.trans xa) ⟨_,rfl⟩ (λ_ _ _ _ h=>h)
  .obtain ⟨B,d2⟩: ∃B:Nat,f 2= .slice (some ⟨B,0,none⟩) 1 1:=hd ⟨2,.data⟩ (by simp) rfl
   obtain ⟨C,d4⟩: ∃B:Nat,f 4= .slice (some ⟨B,0,none⟩) 1 1:=hd ⟨4,.data⟩ (by simp) rfl;obtain ⟨D,d6⟩: ∃B:Nat,f 6= .slice (some ⟨B,0,none⟩) 1 1:=hd ⟨6,.data⟩ (by simp) rfl;exact ⟨.agg #[.slice (some ⟨B,0,none⟩) 1 1,.slice (some ⟨C,0,none⟩) 1 1,.slice (some ⟨D,0,none⟩) 1 1],by go_simp,_,_,_,rfl⟩
 intro f w hG hD;have d1:f 1= .slice (some ⟨g,0,none⟩) 1 gc:=hD 1 (by decide);obtain ⟨B1,B2,B3,d7⟩: ∃B C D:Nat,f 7= .agg #[.slice (some ⟨B,0,none⟩) 1 1,.slice (some ⟨C,0,none⟩) 1 1,.slice (some ⟨D,0,none⟩) 1 1]:=hD 7 (by decide);clear hD;refine ng (S:=λ_=>True) (R:=λ_=>True) (Z:=λ_=>false) _ _ _ _ ?_;refine aJ 8 trivial trivial ?_;refine eI 9 rfl (λKc hK=> ?_);have NW:=HG.o.ext hG;have c0:=NW.cell 0;have c1:=NW.cell 1;have c2:=NW.cell 2
 have f0:=NW.frozen 0;have f1:=NW.frozen 1;have f2:=NW.frozen 2
 simp only [List.getElem?_cons_zero,List.getElem?_cons_succ]at c0 c1 c2;go_simp;refine hK.o _ _ trivial trivial (λ_ _=> ?_);refine aI (by kernel_rfl) ?_ _;have Gu:=(((aB.refl g w).ez (o:=0) (v:= .slice (some ⟨B1,0,none⟩) 1 1)).ez (o:=1) (v:= .slice (some ⟨B2,0,none⟩) 1 1)).ez (o:=2) (v:= .slice (some ⟨B3,0,none⟩) 1 1);have xc:Ext W5 _:=Gu.ext (Ns.o.trans hG) Hp.o.1;have hB:=(HB.o.ext hG).but Gu Qk.o.1.symm;clear Gu NW c0 c1 c2 f0 f1 f2 hG;generalize ((w.setCell ⟨g,0,none⟩ (.slice (some ⟨B1,0,none⟩) 1 1)).setCell ⟨g,1,none⟩ (.slice (some ⟨B2,0,none⟩) 1 1)).setCell ⟨g,2,none⟩ (.slice (some ⟨B3,0,none⟩) 1 1)=W8 at*;have Vv:=ah xc;replace HB:=ah hB
 replace HQ:=ah (HQ.o.ext xc)
 have Ct:Hid (aT W8 C 32 kG.cells/\aT W8 S 136 kB):=by
  have e8:Ext W0 W8:=eC.o.trans (eR.o.trans (kR.o.trans (pV.o.trans (lW.o.trans xc))));exact ⟨HC.o.ext e8,HS.o.ext e8⟩
 have MF:Hid (Ext W1 W8/\Ext W3 W8/\Ext W4 W8/\Ext V W8):=by
  have e5:Ext W4 W8:=lW.o.trans xc;have e3:Ext W3 W8:=pV.o.trans e5;have e1:Ext W1 W8:=eR.o.trans (kR.o.trans e3);exact ⟨e1,e3,e5,HX.o.trans (eC.o.trans e1)⟩
 clear xc hB Ns HG FT Vv HC HS;go_upto_region 5 with fail
 refine aO (λw'=>aT w' Q 32 (lH rb bb ub)/\aT w' Sb 136 [.slice (some ⟨g,0,none⟩) 1 gc,.slice none 0 0,.slice none 0 0,.slice none 0 0,.slice none 0 0,v2,.slice none 0 0,.slice none 0 0]) (λw'=>True) (λi=>false) (by kernel_rfl) (⟨HQ.o,HB.o⟩) (trivial) (λaD ai=> ?_);refine aJ 0 aD ai ?_ (v:= .agg (lH rb bb ub).toArray) (hy:=by rintro w ⟨e0,e1⟩;exact jd 32 (.tmp 3) rfl ⟨Q,0,none⟩ rfl _ _ e0.adds rfl rfl (by kernel_rfl));refine aJ 1 aD ai ?_ (v:= .agg #[.slice (some ⟨g,0,none⟩) 1 gc,.slice none 0 0,.slice none 0 0,.slice none 0 0,.slice none 0 0,v2,.slice none 0 0,.slice none 0 0]) (hy:=by rintro w ⟨e0,e1⟩;exact jd 136 (.tmp 4) rfl ⟨Sb,0,none⟩ rfl _ _ e1.adds rfl rfl (by kernel_rfl));obtain ⟨Y0,Gt⟩: ∃Y0,Y0=W8.drew:=⟨_,rfl⟩;have hd:Ext W8 Y0:=by rw [Gt];exact (Ext.refl W8).drew
 rw [<-Gt];replace Ct:Hid (aT Y0 C 32 kG.cells/\aT Y0 S 136 kB):=⟨Ct.o.1.ext hd,Ct.o.2.ext hd⟩;replace MF:Hid (Ext W1 Y0/\Ext W3 Y0/\Ext W4 Y0/\Ext V Y0):=⟨MF.o.1.trans hd,MF.o.2.1.trans hd,MF.o.2.2.1.trans hd,MF.o.2.2.2.trans hd⟩;replace HQ:=ah (HQ.o.ext hd);replace HB:=ah (HB.o.ext hd)
 clear hd Gt;refine eI 2 rfl (λKc hK=> ?_);rw [if_pos (by rfl)];refine fN 32 (.tmp 0) (.tmp 26) rfl C kG.cells (lH rb bb ub) Ct.o.1 rfl rfl (by kernel_rfl) rfl rfl ?_;intro Y1 hc1 hx1;have hne:Q≠C/\Sb≠C/\S≠C/\V.heap.size<=C:=by(have h1:=IG.o;have h2:=Qk.o;have h3:=NB.o;have h4:=LM.o;omega)
 replace HQ:=ah (HQ.o.but hx1 hne.1);replace HB:=ah (HB.o.but hx1 hne.2.1);have FO:=ah (Ct.o.2.but hx1 hne.2.2.1);have zq:=ah hc1;have Xy:=ah hx1
 clear hc1 hx1 hne Ct;refine hK.o _ _ (⟨HQ.o,HB.o⟩) (trivial) (λaD ai=> ?_);clear hK Kc;try simp only [sS]
 refine eI 3 rfl (λKc hK=> ?_);rw [if_pos (by rfl)];refine fN 136 (.tmp 1) (.tmp 27) rfl S kB [.slice (some ⟨g,0,none⟩) 1 gc,.slice none 0 0,.slice none 0 0,.slice none 0 0,.slice none 0 0,v2,.slice none 0 0,.slice none 0 0] FO.o rfl rfl (by kernel_rfl) rfl (by simp only [List.all_cons,List.all_nil,Io.o];rfl) ?_;intro Y2 hs2 hx2;have hne:Q≠S/\Sb≠S/\C≠S/\V.heap.size<=S:=by(have h1:=IG.o;have h2:=Qk.o;have h3:=NB.o;have h4:=LM.o;omega)
 replace HQ:=ah (HQ.o.but hx2 hne.1);replace HB:=ah (HB.o.but hx2 hne.2.1);replace zq:=ah (zq.o.but hx2 hne.2.2.1);have zT:=ah hs2;have Xz:=ah hx2
 clear hs2 hx2 hne FO;refine hK.o _ _ (⟨HQ.o,HB.o⟩) (trivial) (λaD ai=> ?_);clear hK Kc;try simp only [sS]
 refine aI (by kernel_rfl) ?_ _;clear aD ai
 have TP:Hid (Ext V Y2/\aT Y2 gb 110 [i64 10,i64 2]/\aT Y2 rb 3 [i64 0]/\aT Y2 db 3 [i64 15]/\aT Y2 bb 62 [.string {data:= #[97]},.slice (some ⟨db,0,none⟩) 1 1,i64 0]/\aT Y2 ub 55 (iJ gb)):=by
  have h1:=NB.o;have h2:=Xu.o;have h3:=OT.o;have h4:=SB.o
  have hb: ∀b T cs,aT Y0 b T cs->S<b->aT Y2 b T cs:=λb T cs h hs=>(h.but Xy.o (by omega)).but Xz.o (by omega);have e0:=HX.o.size;refine ⟨Xz.o.ext (Xy.o.ext MF.o.2.2.2 (by omega)) (by omega),hb _ _ _ (HG1.o.ext MF.o.1) ?_,hb _ _ _ (HR.o.ext MF.o.2.1) ?_,hb _ _ _ (HD.o.ext MF.o.2.1) ?_,hb _ _ _ (qB.o.ext MF.o.2.1) ?_,hb _ _ _ (HN.o.ext MF.o.2.2.1) ?_⟩<;>omega
 go_wp2
 exact bodyPost_ret (v:= .tuple #[.agg (lH rb bb ub).toArray,.agg #[.slice (some ⟨g,0,none⟩) 1 gc,.slice none 0 0,.slice none 0 0,.slice none 0 0,.slice none 0 0,v2,.slice none 0 0,.slice none 0 0]]) (Cc 0 1 _ _ rfl rfl rfl zq.o zT.o rfl rfl rfl rfl (by kernel_rfl) (by kernel_rfl)) rfl ⟨gb,rb,db,bb,ub,_,rfl,rfl,(by first|(simp only [List.all_cons,List.all_nil,Io.o];rfl)|(intro u hu;simp only [List.mem_cons,List.not_mem_nil,or_false]at hu;rcases hu with e|e|e|e|e|e|e|e<;>(rw [e];first|rfl|exact Io.o))),by(have h1:=NB.o;have h2:=Xu.o;have h3:=OT.o;have h4:=SB.o;have h5:=HX.o.size;omega),TP.o.2.1,TP.o.2.2.1,TP.o.2.2.2.1,TP.o.2.2.2.2.1,TP.o.2.2.2.2.2,TP.o.1⟩
structure mZ where
 kind:Int
 hour:Int
 ua:Option Addr
 uc:Nat
 aA:List Int
 least:Int
 unit:Int
 length:Int
def mZ.cells (x:mZ):List Value:= [i64 x.kind,i64 x.hour,.slice x.ua x.aA.length x.uc,i64 x.least,i64 x.unit,i64 x.length]
theorem mZ.at {w:World} {E:Nat} {T:TypeId} {x:mZ} (h:aT w E T x.cells):w.cell? ⟨E,0,none⟩=some (i64 x.kind)/\w.cell? ⟨E,1,none⟩=some (i64 x.hour)/\w.cell? ⟨E,2,none⟩=some (.slice x.ua x.aA.length x.uc)/\w.cell? ⟨E,3,none⟩=some (i64 x.least)/\w.cell? ⟨E,4,none⟩=some (i64 x.unit)/\w.cell? ⟨E,5,none⟩=some (i64 x.length):=
 ⟨(h.cell 0).trans rfl,(h.cell 1).trans rfl,(h.cell 2).trans rfl,(h.cell 3).trans rfl,(h.cell 4).trans rfl,(h.cell 5).trans rfl⟩
def m9 (c:ay) (x:mZ):Bool:=mg c x.hour&&
 (if x.kind=0 then pW c.aA.length x.aA&&decide (1<=x.least)&&decide (x.least<=x.aA.length)&&(x.unit==0)&&(x.length==0)
  else if x.kind=1 then decide (0<=x.unit)&&decide (x.unit<c.aA.length)&&decide (0<=x.length)&&decide (x.length<=x.hour)&&decide (x.aA.length=0)&&(x.least==0)
  else false)
theorem JM (V:World) (c:ay) (x:mZ) (h:aS V x.ua x.uc x.aA) (hn:c.aA.length<=9223372036854775807):
 Calls prog 36 #[.agg (C8 c),.agg #[i64 x.kind,i64 x.hour,.slice x.ua x.aA.length x.uc,i64 x.least,i64 x.unit,i64 x.length]] V λe w'=>e= .returned (.bool (m9 c x))/\Ext V w':=by
 try unfold C8
 have hle:=h.le;have dS:=h.cap
 have HI:=ah h;have HF:Hid (m9 c x=(mg c x.hour&&(if x.kind=0 then pW c.aA.length x.aA&&decide (1<=x.least)&&decide (x.least<=x.aA.length)&&(x.unit==0)&&(x.length==0)else if x.kind=1 then decide (0<=x.unit)&&decide (x.unit<c.aA.length)&&decide (0<=x.length)&&decide (x.length<=x.hour)&&decide (x.aA.length=0)&&(x.least==0)else false))):=rfl;obtain ⟨fb,hfb⟩: ∃fb,fb=m9 c x:=⟨_,rfl⟩;rw [<-hfb]at HF⊢;clear h hfb;go_enter func36,ntmps36
 go_upto_region 1 with fail
 obtain ⟨W,hW,x0,Z0,A0,A1⟩:=dZ V 32 c.cells 24 x.cells;rw [show(V.alloc (.cells (C8 c) 32)).alloc (.cells #[i64 x.kind,i64 x.hour,.slice x.ua x.aA.length x.uc,i64 x.least,i64 x.unit,i64 x.length] 24)=W from hW.symm];obtain ⟨B,hB⟩: ∃B,B=V.heap.size:=⟨_,rfl⟩;obtain ⟨X,hX⟩: ∃X,X=V.heap.size+1:=⟨_,rfl⟩;rw [<-hX]at A1⊢;rw [<-hB]at A0⊢;have k0:=ay.at A0;obtain ⟨O6,H4,H5,H6,JN,Kp⟩:=mZ.at A1;have HX:=ah x0;have HA:=ah A0;have HB:=ah A1
 clear hW x0 Z0 A0 A1 hB hX;go_wp2_with fail
 refine (Ac W c x.hour).mono ?_;rintro e w1 ⟨rfl,xx⟩;clear k0 O6 H4 H5 H6 JN Kp;have HA:=ah (HA.o.ext xx);have HB:=ah (HB.o.ext xx);have HX:=ah (HX.o.trans xx)
 clear xx;have k0:=ay.at HA.o;obtain ⟨O6,H4,H5,H6,JN,Kp⟩:=mZ.at HB.o;rcases Bool.eq_false_or_eq_true (mg c x.hour)with th|th;rotate_left
 .rw [th]
  have HQ:Hid (false=fb):=by
   show _=_;rw [HF.o];simp [th]
  go_wp2
  go_ret;exact ⟨by rw [<-HQ.o];rfl,HX.o⟩
 rw [th];by_cases hk:x.kind=0
 .have tk:(x.kind==0)=true:=by rw [hk];rfl
  have HK:=ah hk;clear hk;go_wp2_with fail
  refine (DM w1 c x.ua x.uc x.aA (HI.o.ext HX.o)).mono ?_;rintro e w2 ⟨rfl,xx⟩;clear k0 O6 H4 H5 H6 JN Kp;have HA:=ah (HA.o.ext xx);have HB:=ah (HB.o.ext xx);have HX:=ah (HX.o.trans xx)
  clear xx;have k0:=ay.at HA.o;obtain ⟨O6,H4,H5,H6,JN,Kp⟩:=mZ.at HB.o;rcases Bool.eq_false_or_eq_true (pW c.aA.length x.aA)with ts|ts;rotate_left
  .rw [ts]
   have HQ:Hid (false=fb):=by
    show _=_;rw [HF.o];simp [th,HK.o,ts]
   go_wp2
   go_ret;exact ⟨by rw [<-HQ.o];rfl,HX.o⟩
  rw [ts];by_cases h2:1<=x.least
  rotate_left
  .have HQ:Hid (false=fb):=by
    show _=_;rw [HF.o];simp [th,HK.o,ts,h2]
   go_wp2
   go_ret;exact ⟨by rw [<-HQ.o];rfl,HX.o⟩
  by_cases h3:x.least<=x.aA.length
  rotate_left
  .have HQ:Hid (false=fb):=by
    show _=_;rw [HF.o];simp [th,HK.o,ts,h2,h3]
   go_wp2
   go_ret;exact ⟨by rw [<-HQ.o];rfl,HX.o⟩
  by_cases h4:x.unit=0
  rotate_left
  .have Hh4:=ah h4
   have th4:(x.unit==0)=false:=by rw [beq_eq_false_iff_ne];omega
   clear h4
   have HQ:Hid (false=fb):=by
    show _=_;rw [HF.o];simp [th,HK.o,ts,h2,h3,Hh4.o]
   go_wp2
   go_ret;exact ⟨by rw [<-HQ.o];rfl,HX.o⟩
  have Hh4:=ah h4;have th4:(x.unit==0)=true:=by rw [beq_iff_eq];omega
  clear h4
  have HQ:Hid ((x.length==0)=fb):=by
   show _=_;rw [HF.o];simp [th,HK.o,ts,h2,h3,Hh4.o]
  go_wp2
  go_ret;exact ⟨by rw [<-HQ.o];rfl,HX.o⟩
 .have tk:(x.kind==0)=false:=by simpa using hk
  by_cases zI:x.kind=1
  .have YI:(x.kind==1)=true:=by rw [zI];rfl
   have JE:=ah zI;clear hk zI;by_cases h2:0<=x.unit
   rotate_left
   .have HQ:Hid (false=fb):=by
     show _=_;rw [HF.o];simp [th,JE.o,h2]
    go_wp2
    go_ret;exact ⟨by rw [<-HQ.o];rfl,HX.o⟩
   by_cases h3:x.unit<c.aA.length
   rotate_left
   .have HQ:Hid (false=fb):=by
     show _=_;rw [HF.o];simp [th,JE.o,h2,h3]
    go_wp2
    go_ret;exact ⟨by rw [<-HQ.o];rfl,HX.o⟩
   by_cases h4:0<=x.length
   rotate_left
   .have HQ:Hid (false=fb):=by
     show _=_;rw [HF.o];simp [th,JE.o,h2,h3,h4]
    go_wp2
    go_ret;exact ⟨by rw [<-HQ.o];rfl,HX.o⟩
   by_cases h5:x.length<=x.hour
   rotate_left
   .have HQ:Hid (false=fb):=by
     show _=_;rw [HF.o];simp [th,JE.o,h2,h3,h4,h5]
    go_wp2
    go_ret;exact ⟨by rw [<-HQ.o];rfl,HX.o⟩
   by_cases h6:x.aA.length=0
   rotate_left
   .have Hh6:=ah h6
    have th6:((x.aA.length:Int)==0)=false:=by rw [beq_eq_false_iff_ne];omega
    clear h6
    have HQ:Hid (false=fb):=by
     show _=_;rw [HF.o];simp [th,JE.o,h2,h3,h4,h5,Hh6.o]
    go_wp2
    go_ret;exact ⟨by rw [<-HQ.o];rfl,HX.o⟩
   have Hh6:=ah h6;have th6:((x.aA.length:Int)==0)=true:=by rw [beq_iff_eq];omega
   clear h6
   have HQ:Hid ((x.least==0)=fb):=by
    show _=_;rw [HF.o];simp [th,JE.o,h2,h3,h4,h5,Hh6.o]
   go_wp2
   go_ret;exact ⟨by rw [<-HQ.o];rfl,HX.o⟩
  .have YI:(x.kind==1)=false:=by simpa using zI
   have HKK:=ah (And.intro hk zI);clear hk zI
   have HQ:Hid (false=fb):=by
    show _=_;rw [HF.o];simp [th,HKK.o.1,HKK.o.2]
   go_wp2
   go_ret;exact ⟨by rw [<-HQ.o];rfl,HX.o⟩
