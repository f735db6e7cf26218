/- Texts of the proof. -/
import Derived.Test.YtbnamicbjaaelaaGreatCg26
set_option linter.all false
set_option maxHeartbeats 4000000
set_option maxRecDepth 100000
namespace Go.Proofs.YtbnamicbjaaelaaGreat
open Go.Proofs.Tryz
open Go.RowKit
theorem ko.of {F:Nat} {x:Nat->Rat} {r:cH} {l:List Nat} {L B k:Nat} {g:Option Addr} {w:World} (hN:jZ w r (lN x l) L) (ho:qN r (some F)) (hO:aL w B 3 1 (.slice g l.length k) (dY (aR l))) (hi:gO (aR l)) (hB:F<B) (hl:l≠ []):ko F x r g k l L w:=by
 obtain ⟨h1,h2⟩:=DX hO hi;exact ⟨⟨hN,ho⟩,h1,λp e=>bA (h2 p e),λe=>absurd e hl⟩
theorem FS.take {F n:Nat} {x:Nat->Rat} {cap:Nat->Int} {need:Int} {f:sJ} {V w3 w':World} {r:cH} {a g:Option Addr} {c L B k:Nat} {l:List Nat} (h:FS F n x cap need f V) (hs:ko F x r a c l L V) (hL:L<=40) (hl:l≠ []) (e3:aB F V w3) (e:aB F w3 w') (hO:aL w3 B 3 1 (.slice g l.length k) (dY (aR l))) (hB:F<B)
 (A:aT w' F 101 (({f with least:=r,ba:=g,bc:=k,bD:=l}:sJ).cells n need)):FS F n x cap need {f with least:=r,ba:=g,bc:=k,bD:=l} w':=
 h.turn (e3.trans e) _ ⟨rfl,rfl,rfl,rfl⟩ A (λ_=>((ko.of (hs.num.1.but e3 hs.num.2) hs.num.2 hO hs.ints.wE hB hl).but e).mono hL) λe=>absurd e hl
def Gc (F n:Nat) (x:Nat->Rat) (cap:Nat->Int) (need:Int) (k:Nat):Prop:= ∀(next:Nat) (V:World) (f:sJ) (r:cH) (a:Option Addr) (c:Nat) (l:List Nat) (out rest:Int),next+k=n->FS F n x cap need f V->ko F x r a c l (1+7*next) V->l.length<=next->(0<=out/\out<=next*1048576)->(-(next*1048576)<=rest/\rest<=1073741824)->
 Calls prog 44 #[.pointer (some ⟨F,0,none⟩),.int .i64 (next:Int),.slice a l.length c,.agg #[.bool r.s,.slice r.a r.k r.c,.slice r.b r.j r.d],i64 out,i64 rest] V λe w'=>e= .returned (.tuple #[])/\aB F V w'/\ ∃g,FS F n x cap need g w'/\g.bD=pU x cap need k next l out rest f.bD/\g.oa=f.oa/\g.oc=f.oc/\g.cb=f.cb
theorem Ah {x:Nat->Rat} {cap:Nat->Int} {need:Int} {k next:Nat} {l:List Nat} {out rest:Int} {bD:List Nat} (h:need<=out\/jL x l bD):pU x cap need k next l out rest bD=bD:=by
 unfold pU;exact if_pos h
theorem Jz {x:Nat->Rat} {cap:Nat->Int} {need:Int} {k next:Nat} {l:List Nat} {out rest:Int} {bD:List Nat} (h: ¬(need<=out\/jL x l bD)) (h2:l≠ []/\out+rest<need):pU x cap need k next l out rest bD=l:=by
 unfold pU;rw [if_neg h,if_pos h2]
theorem Hm {x:Nat->Rat} {cap:Nat->Int} {need:Int} {k next:Nat} {l:List Nat} {out rest:Int} {bD:List Nat} (h: ¬(need<=out\/jL x l bD)) (h2: ¬(l≠ []/\out+rest<need)):pU x cap need k next l out rest bD=match k with
 |0=>bD
 |k+1=>pU x cap need k (next+1) l (out+cap next) (rest-cap next) (pU x cap need k (next+1) (l++ [next]) out (rest-cap next) bD):=by
 conv=>lhs;unfold pU
 rw [if_neg h,if_neg h2];cases k<;>rfl
theorem Mn (F n:Nat) (x:Nat->Rat) (cap:Nat->Int) (need:Int) (k:Nat) (hn:n<=4) (hc: ∀u,u<n->0<=cap u/\cap u<=1048576) (ih: ∀j,k=j+1->Gc F n x cap need j):Gc F n x cap need k:=by
 intro next V f r a c l out rest hk hf hs uM ho hr;have HW:=ah (λU (hU:Ext V U)=>OC U F n x cap need f (hf.ext hU) r a c l _ ae (hs.but (hU.but F)));have Ny:=ah (λU (hU:aB F V U)=>Mm U a c (aR l) (hs.but hU).ints (λe=>hs.nil (by simpa [aR]using e)) (by rw [aN];omega));rw [aN]at Ny;have HIH:=ah ih;have HF:=ah hf;have HS:=ah hs;have Qd:=ah hc
 have hle:=hs.ints.le;have dS:=hs.ints.cap
 rw [aN]at hle;clear ih hf hs hc;go_enter func44,ntmps44
 go_upto_region 1 with fail
 generalize hW:World.alloc V _=W;obtain ⟨B,hB,x0,A0⟩:=bV hW;rw [<-hB];have HX:=ah x0;have hBF:B≠F:=bA HF.o.blk.lt;have G: ∀Y,Ext W Y->_:=λY e=>((HF.o.blk.ext x0).ext e).cs;have K: ∀Y,aB F W Y->_:=λY e=>(A0.but e hBF).cs;simp only [Cs,sJ.cells,Nat.zero_add]at G K;have HA:=ah A0;clear hW hB x0 A0;have s:=Ext.refl W;have sb:=aB.refl F W;by_cases q0:need<=out
 .go_wp2
  exact bodyPost_ret (v:= .tuple #[]) ax rfl ⟨rfl,HX.o.but F,f,HF.o.ext HX.o,(Ah (Or.inl q0)).symm,rfl,rfl,rfl⟩
 go_wp2_with fail
 refine (HW.o W HX.o).mono ?_;rintro e w1 ⟨rfl,x1⟩;replace s:=s.trans x1;replace sb:=sb.trans (x1.but F);clear HW;by_cases q1:jL x l f.bD
 .rw [decide_eq_true q1]
  go_wp2
  exact bodyPost_ret (v:= .tuple #[]) ax rfl ⟨rfl,(HX.o.trans s).but F,f,HF.o.ext (HX.o.trans s),(Ah (Or.inr q1)).symm,rfl,rfl,rfl⟩
 rw [decide_eq_false q1];have HNO:Hid (¬(need<=out\/jL x l f.bD)):=λh=>h.elim ae q1;clear q0 q1;go_upto_region 2 with fail
 go_cut [37] (λv wx=> ∃b,v= .bool b/\Hid (b=true↔(l≠ []/\out+rest<need))/\Ext W wx/\aB F W wx)
 case first=>
  have wr:IntKind.i64.wrap (out+rest)=out+rest:=dW;by_cases q2:l= []
  .have t2: ¬(0:Int)<(l.length:Int):=by rw [q2];decide
   have HQ:=ah q2;clear q2;go_wp2
   go_meet
   exact ⟨false,rfl,⟨(λh=>by cases h),λh=>absurd HQ.o h.1⟩,s,sb⟩
  .have t2:(0:Int)<(l.length:Int):=bA (List.length_pos_iff.2 q2)
   by_cases q3:out+rest<need
   .go_wp2
    go_meet
    exact ⟨true,rfl,⟨λ_=>⟨q2,q3⟩,λ_=>rfl⟩,s,sb⟩
   .go_wp2
    go_meet
    exact ⟨false,rfl,⟨(λh=>by cases h),λh=>absurd h.2 ae⟩,s,sb⟩
 case rest=>
  obtain ⟨b,rfl,hb,s,sb⟩:=hcut;generalize wc=w2 at*;cases b with
  |true=>
   have hy:=hb.o.1 rfl;have HY:=ah hy;clear hb hy;go_wp2_with fail
   refine wG (λw=>aB F W w) (sb.trans (ar.drew.but F)) λsb=> ?_;have x2:=HX.o.trans s.drew;have s:=s.drew;generalize w2.drew=Y at*;refine wV 0 sb ?_;refine wV 1 sb ?_;refine wV 2 sb ?_;refine wV 4 sb ?_;refine wR 3 λK' hK=> ?_;rw [if_pos eN];go_simp;refine (Ny.o Y ((HX.o.trans s).but F)).mono ?_;rintro e w3 ⟨g,kk,rfl,hO,x3⟩;refine hK.o _ _ (sb.trans (x3.but F)) λsb=> ?_;have s:=s.trans x3;have HO:=ah hO;have A3:=HF.o.blk.ext (HX.o.trans s);have f9:=A3.frozen 9;have BD:=ah A3;clear hK K' x3 hO A3;refine wV 5 sb ?_;refine wV 6 sb ?_;refine wR 7 λK' hK=> ?_;rw [if_pos eN];go_simp;refine hK.o _ _ sb.ez λsb=> ?_;have A4:=BD.o.set 9 (.slice g l.length kk);have s4:aB F w3 (w3.setCell ⟨F,9,none⟩ (.slice g l.length kk)):=(aB.refl F w3).ez;generalize w3.setCell ⟨F,9,none⟩ (.slice g l.length kk)=w4 at*;have c4:=A4.cs;have f4:=λi=>A4.frozen i;have yw:=ah A4;simp only [Cs,sJ.cells,Nat.zero_add,List.set_cons_succ,List.set_cons_zero]at c4;clear hK K' A4 f9;refine wV 8 sb ?_;refine wV 9 sb ?_;refine wR 10 λK' hK=> ?_;rw [if_pos eN];go_simp;refine hK.o _ _ sb.ez.ez.ez λsb=> ?_;have A5:=((yw.o.set 6 (.bool r.s)).set 7 (.slice r.a r.k r.c)).set 8 (.slice r.b r.j r.d);have s5:=s4.ez (o:=6) (v:= .bool r.s)|>.ez (o:=7) (v:= .slice r.a r.k r.c)|>.ez (o:=8) (v:= .slice r.b r.j r.d)
   have TG:=ah (HF.o.take HS.o ae HY.o.1 ((HX.o.trans s).but F) s5 HO.o (aO3 HF.o.blk.lt HX.o.size x2.size) A5);clear hK K' A5 s5 c4 f4;refine wD ?_;go_wp2
   exact bodyPost_ret (v:= .tuple #[]) ax rfl ⟨rfl,(HX.o.but F).trans sb,_,TG.o,(Jz HNO.o HY.o).symm,rfl,rfl,rfl⟩
  |false=>
   have HZ:Hid (¬(l≠ []/\out+rest<need)):=λh=>by have:=hb.o.2 h;cases this
   clear hb;cases k with
   |zero=>
    obtain rfl:next=n:=ae;go_wp2
    exact bodyPost_ret (v:= .tuple #[]) ax rfl ⟨rfl,(HX.o.trans s).but F,f,HF.o.ext (HX.o.trans s),(Hm (cap:=cap) (next:=next) (k:=0) HNO.o HZ.o).symm,rfl,rfl,rfl⟩
   |succ j=>
    have b1:(next:Int)<(n:Int):=ae;have b0:(0:Int)<=(next:Int):=ae;have b2:((next:Int)==(n:Int))=false:=beq_eq_false_iff_ne.2 ae;have Nt:=Qd.o next ae;have C: ∀Y,aB F W Y->Y.cell? ⟨f.cb,next,none⟩=some (i64 (cap next)):=λY e=>(iC.cell (show iC Y f.cb cap n from(HF.o.ext HX.o).cap.1.but e HF.o.cap.2) next ae).1;obtain ⟨bo,oo,r0,OQ,hb0,hcs,Wy,hO0⟩:=(HF.o.ext HX.o).on.2.2 next ae;have O: ∀Y,aB F W Y->_:=λY e=>And.intro (bU hcs.1 e hb0) (And.intro (bU hcs.2.1 e hb0) (bU hcs.2.2.1 e hb0));simp only [Nat.add_zero]at O;have TI:=ah (Hm (cap:=cap) (next:=next) (k:=j+1) HNO.o HZ.o);rw [OQ]at G;have Zq:=ah OQ;obtain ⟨p,hp⟩: ∃p,p=cap next:=⟨_,rfl⟩;rw [<-hp]at C Nt TI;have wr:IntKind.i64.wrap (rest-p)=rest-p:=dW;have wo:IntKind.i64.wrap (out+p)=out+p:=dW;have wn:IntKind.i64.wrap ((next:Int)+1)=((next+1:Nat):Int):=dW;have HAD:=ah (λU (hU:Ext W U)=>N_ U r r0 _ _ (1+7*next) 4 (HS.o.num.1.ext (HX.o.trans hU)) (Wy.ext hU) ae);have HFD:Hid (F<w2.heap.size):=by have:=HF.o.blk.lt;have:=HX.o.size;have:=s.size;show _<_;omega
    have HPS:=ah (And.intro HS.o.num.2 HS.o.ints.wE)
    have gl:Hid (gO (aR (l++ [next]))):=λz hz=>by
     rw [show aR (l++ [next])=aR l++ [(next:Int)] by simp [aR]]at hz;rcases List.mem_append.1 hz with q|q
     .exact HPS.o.2 z q
     .rw [List.mem_singleton]at q;rw [q];unfold b_;omega
    have HL:Hid ((l++ [next]).length=l.length+1):=by show _=_;simp
    have HB:=ah (And.intro ho (And.intro hr Nt));clear hp hb0 hcs Wy hO0 OQ ho hr Nt Qd;go_wp2_with fail
    refine (Ny.o w2 ((HX.o.trans s).but F)).mono ?_;rintro e w3 ⟨g,kk,rfl,hO,x3⟩;have HO:=ah hO;have h3:=x3.size;clear hO;go_wp2_with (at_builtin;refine jQ _ _ 22 3 (.int .i64 0) 1 8 rfl rfl underlying22 Tryz.info_int rfl aq aq (ga:=g) (gc:=kk) (rows:=dY (aR l)) (by rw [cf,aN];rfl) (by rw [cf,aN];exact HO.o.ext ((Ext.refl w3).alloc _)) rfl (aT.alloc w3 3 [i64 (next:Int)]) rfl (by intro u hu;rw [List.mem_singleton]at hu;subst hu;rfl) (by rw [cf,aN];omega) (by simp;omega) ?_;intro g2 k2 w4 Kb xR hK2 x4)
    rw [cf,aN];rw [cf,aN,<-kM,show aR l++ [(next:Int)]=aR (l++ [next]) by simp [aR],<-HL.o]at xR;have h4:=x4.size;replace s:=s.trans (x4.ext (x3.alloc _) hK2.o.1);replace sb:=s.but F;have Cp:=ah xR;clear xR hK2 x4 x3 HO Ny;refine wG (λw=>w.cell? ⟨F,0,none⟩=some (.slice (some ⟨bo,oo,none⟩) n f.oc)/\aB F W w) ⟨(G _ s.drew).1,s.drew.but F⟩ λe=> ?_;replace s:=s.drew;have HY:=ah ((Ext.refl w4).drew);have HFY:Hid (F<w4.drew.heap.size):=by have:=HF.o.blk.lt;have:=HX.o.size;have:=s.size;show _<_;omega
    generalize w4.drew=Y at*;refine wV 0 e ?_;refine wV 1 e ?_;refine wV 2 e ?_;refine wV 3 e ?_;refine wV 4 e ?_;refine wV 5 e ?_;refine wV 6 e ?_;refine wV 7 e ?_;refine wV 8 e ?_;refine wV 9 e ?_;refine wV 10 e ?_;refine wV 11 e ?_;refine wV 13 e ?_;refine wV 14 e ?_;refine wR 12 λK' hK=> ?_;rw [if_pos eN];go_simp;refine (HAD.o Y s).mono ?_;rintro e5 w5 ⟨r2,rfl,hN,mA,x5⟩;replace s:=s.trans x5;refine hK.o _ _ ⟨(G _ s).1,s.but F⟩ λe=> ?_;have HI:=ah (HIH.o j rfl (next+1) w5 f r2 g2 k2 (l++ [next]) out (rest-p) ae (HF.o.ext (HX.o.trans s)) (ko.of (by rw [rS];exact hN.mono ae) (nM mA HFY.o) (Cp.o.ext (HY.o.trans x5)) gl.o HFD.o aG) (by rw [HL.o];omega) (bA HB.o) (bA HB.o));rw [HL.o]at HI;clear hK K' hN mA x5;refine wR 15 λK' hK=> ?_;rw [if_pos eN];go_simp;refine HI.o.mono ?_;rintro e6 w6 ⟨rfl,x6,g3,Zr,hb3,ho3,hc3,hd3⟩;have q0:=Zr.blk.cs.1;have q1:=Zr.blk.cs.2.1;rw [ho3,hc3,Zq.o]at q0;rw [hd3]at q1;have sb:=(s.but F).trans x6;have Wz:=ah Zr;have vt:=ah (And.intro hb3 (And.intro ho3 (And.intro hc3 hd3)));refine hK.o _ _ ⟨q0,sb⟩ λe=> ?_;clear hK K' Zr hb3 ho3 hc3 hd3 HI;refine wD ?_;go_wp2_with fail
    refine wG (λw=>w.cell? ⟨F,1,none⟩=some (.slice (some ⟨f.cb,0,none⟩) n n)/\aB F W w) ⟨aC ar.drew q1,sb.trans (ar.drew.but F)⟩ λe=> ?_;replace sb:=e.2;have HY3:=ah ((Ext.refl w6).drew);generalize w6.drew=Z at*;refine wV 0 e ?_;refine wV 1 e ?_;refine wV 2 e ?_;refine wV 3 e ?_;refine wV 4 e ?_;refine wV 5 e ?_;refine wV 6 e ?_;refine wV 7 e ?_;refine wV 8 e ?_;refine wV 9 e ?_;refine wV 10 e ?_;refine wV 11 e ?_;refine wV 12 e ?_;refine wV 13 e ?_;refine wV 14 e ?_;refine wR 15 λK' hK=> ?_;rw [if_pos eN];go_simp;refine (HIH.o j rfl (next+1) Z g3 r a c l (out+p) (rest-p) ae (Wz.o.ext HY3.o) ((HS.o.but ((HX.o.but F).trans sb)).mono ae) ae (bA HB.o) (bA HB.o)).mono ?_;rintro e7 w7 ⟨rfl,x7,g4,FD,hb4,ho4,hc4,hd4⟩;have q1:=FD.blk.cs.2.1;rw [hd4,vt.o.2.2.2]at q1;replace sb:=sb.trans x7
    have HR:Hid (∃g,FS F n x cap need g w7/\g.bD=pU x cap need (j+1) next l out rest f.bD/\g.oa=f.oa/\g.oc=f.oc/\g.cb=f.cb):=
     ⟨g4,FD,by rw [hb4,TI.o,vt.o.1],ho4.trans vt.o.2.1,hc4.trans vt.o.2.2.1,hd4.trans vt.o.2.2.2⟩
    refine hK.o _ _ ⟨q1,sb⟩ λe=> ?_;clear hK K' FD hb4 ho4 hc4 hd4;refine wD ?_;go_wp2
    exact bodyPost_end (v:= .tuple #[]) ax rfl ⟨rfl,(HX.o.but F).trans sb,HR.o⟩
theorem DY (F n:Nat) (x:Nat->Rat) (cap:Nat->Int) (need:Int) (hn:n<=4) (hc: ∀u,u<n->0<=cap u/\cap u<=1048576): ∀k,Gc F n x cap need k
 |0=>Mn F n x cap need 0 hn hc λ_ e=>nomatch e
 |k+1=>Mn F n x cap need (k+1) hn hc λj e=>by cases e;exact DY F n x cap need hn hc k
theorem BV (b m:Nat):members b (m+1)=members b m++if b.testBit m then [m]else []:=by
 unfold members;rw [List.range_succ,List.filter_append];simp [List.filter_cons]
theorem o_ (b m:Nat):(members b m).length<=m:=by
 have:=List.length_filter_le (λu=>b.testBit u) (List.range m);rw [List.length_range]at this;exact this
theorem Hn: ∀b:Nat,b<16-> ∀j,j<4->(bits BinOp.and IntKind.i64 ((b:Int)/2^j) 1==1)=b.testBit j:=by decide+kernel
theorem DZ (V:World) (b n:Nat) (hb:b<16) (hn:n<=4):
 Calls prog 48 #[.int .i64 (b:Int),.int .i64 (n:Int)] V λe w'=> ∃g k,e= .returned (.slice g (members b n).length k)/\aL w' V.heap.size 3 1 (.slice g (members b n).length k) (dY (aR (members b n)))/\Ext V w':=by
 go_enter func48,ntmps48
 go_wp2
 go_loopw [5,6] (λv ii wr=> ∃(j:Nat) (g:Option Addr) (k:Nat),j<=n/\ii= .int .i64 j/\v= .slice g (members b j).length k/\aL wr V.heap.size 3 1 (.slice g (members b j).length k) (dY (aR (members b j)))/\Ext V wr) (λ_ ii _=>n-(intOf ii).toNat)
 case atStart=>exact ⟨0,none,0,aZ,rfl,rfl,aL.nil _ _ _ _,ar⟩
 case round=>
  obtain ⟨j,g,k,hj,rfl,rfl,hO,hX⟩:=hrel;by_cases hlt:j<n
  .have b1:(j:Int)<(n:Int):=ae
   have HO:=ah hO;have HX:=ah hX
   clear hO hX;have hm:=BV b j;have Nl:=o_ b j;cases ht:b.testBit j with
   |false=>
    have hq:=(Hn b hb j ae).trans ht;rw [ht]at hm;simp only [Bool.false_eq_true,if_false,List.append_nil]at hm;rw [<-hm]at HO;go_wp2
    exact ⟨⟨j+1,g,k,hlt,bf,by rw [hm],HO.o,HX.o⟩,a_⟩
   |true=>
    have hq:=(Hn b hb j ae).trans ht;rw [ht,if_pos rfl]at hm;have HM:=ah hm;have hs:=HX.o.size;clear hm ht;go_wp2_with (at_builtin;refine jQ _ _ 22 3 (.int .i64 0) 1 8 rfl rfl underlying22 Tryz.info_int rfl aq aq (ga:=g) (gc:=k) (rows:=dY (aR (members b j))) (by rw [cf,aN];rfl) (by rw [cf,aN];exact HO.o.ext ((Ext.refl wr).alloc _)) rfl (aT.alloc wr 3 [i64 (j:Int)]) rfl (by intro u hu;rw [List.mem_singleton]at hu;subst hu;rfl) (by rw [cf,aN];omega) (by simp;omega) ?_;intro g2 k2 w4 Kb xR hK2 x4)
    have HL:Hid ((members b (j+1)).length=(members b j).length+1):=by show _=_;rw [HM.o];simp
    rw [cf,aN];rw [cf,aN,<-kM,show aR (members b j)++ [(j:Int)]=aR (members b (j+1)) by rw [HM.o];simp [aR],<-HL.o]at xR;have Cp:=ah xR;have eR:=ah (x4.ext (HX.o.alloc _) hK2.o.1);clear xR hK2 x4;exact ⟨⟨j+1,g2,k2,hlt,bf,by rw [HL.o],Cp.o,eR.o⟩,a_⟩
  .obtain rfl:j=n:=ae
   have HO:=ah hO;have HX:=ah hX
   clear hO hX;go_wp2
   go_ret;exact ⟨g,k,rfl,HO.o,HX.o⟩
theorem D4 (l:List Nat) (i:Nat) (h:i<(aR l).length):(aR l)[i]=(l[i]'(by rw [aN]at h;exact h):Nat):=by simp [aR]
theorem BW {w:World} {a:Option Addr} {c:Nat} {l:List Nat} (h:aS w a c (aR l)) (i:Nat) (hi:i<l.length): ∃b o,a=some ⟨b,o,none⟩/\ ∀Y,Ext w Y->Y.cell? ⟨b,o+i,none⟩=some (.int .i64 (l[i]:Nat)):=by
 have hi':i<(aR l).length:=by rw [aN];exact hi
 obtain ⟨b,o,ha,hc⟩:=h.cell i hi';rw [D4]at hc;exact ⟨b,o,ha,λY e=>aC e hc⟩
theorem JA {a b:List Nat} {i:Nat} (h:i<a.length) (h2:i<b.length):lexB (a.drop i) (b.drop i)=if a[i]=b[i]then lexB (a.drop (i+1)) (b.drop (i+1))else decide (a[i]<b[i]):=by
 rw [List.drop_eq_getElem_cons h,List.drop_eq_getElem_cons h2,lexB]
theorem Mo (V:World) (p q:Option Addr) (cp cq:Nat) (a b:List Nat) (ha:aS V p cp (aR a)) (hb:aS V q cq (aR b)) (hn:a.length<=1000):
 Calls prog 50 #[.slice p a.length cp,.slice q b.length cq] V λe w'=>e= .returned (.bool (iU a b))/\Ext V w':=by
 have hle:=ha.le;have dS:=ha.cap;have sy:=hb.le;have Dw:=hb.cap
 rw [aN]at hle sy;by_cases hl:a.length=b.length
 .have hB:iU a b=lexB (a.drop 0) (b.drop 0):=by unfold iU;rw [if_pos hl];rfl
  have HB:=ah hB;have HA:=ah ha;have HC:=ah hb
  obtain ⟨n,Nn⟩: ∃n,n=b.length:=⟨_,rfl⟩;have HN:=ah (And.intro (hl.trans Nn.symm) Nn.symm);rw [hl,<-Nn]at hle hn⊢;rw [<-Nn]at sy;clear hB ha hb hl Nn;go_enter func50,ntmps50
  go_wp2
  go_loopw [5] (λii wr=> ∃i:Nat,i<=n/\ii= .int .i64 i/\lexB (a.drop i) (b.drop i)=iU a b/\Ext V wr) (λii _=>n-(intOf ii).toNat)
  case atStart=>exact ⟨0,aZ,rfl,HB.o.symm,ar⟩
  case round=>
   obtain ⟨i,hi,rfl,hE,hX⟩:=hrel;have HE:=ah hE;clear HB hE;by_cases hlt:i<n
   .have b1:(i:Int)<(n:Int):=ae
    have b0:(0:Int)<=(i:Int):=ae;have h1:i<a.length:=by rw [HN.o.1];exact hlt
    have h2:i<b.length:=by rw [HN.o.2];exact hlt
    obtain ⟨g1,o1,rfl,c1⟩:=BW HA.o i h1;obtain ⟨g2,o2,rfl,c2⟩:=BW HC.o i h2;have hd:=JA h1 h2;generalize a[i]=x at c1 hd;generalize b[i]=y at c2 hd;rw [HE.o]at hd;have HD:=ah hd;clear hd h1 h2;go_wp2_with fail
    refine wG (λw=>Ext V w) hX.drew λs=> ?_;generalize wr.drew=Y at*;refine wV 0 s ?_;refine wV 1 s ?_;refine wV 2 s ?_;refine wV 3 s ?_;refine wV 4 s ?_;refine wV 5 s ?_;refine wV 6 s ?_;refine wV 7 s ?_;refine wV 8 s ?_;refine wD ?_;by_cases mG:x=y
    .have t:((x:Int) !=(y:Int))=false:=by rw [mG];simp
     have hd:=HD.o;rw [if_pos mG]at hd;have HD:=ah hd;clear mG hd;go_wp2
     exact ⟨⟨i+1,hlt,bf,HD.o.symm,s⟩,a_⟩
    .have t:((x:Int) !=(y:Int))=true:=by simp;omega
     have hd:=HD.o;rw [if_neg mG]at hd;have HD:=ah hd;clear mG hd;go_wp2_with fail
     refine wG (λw=>Ext V w) s.drew λs=> ?_;generalize Y.drew=Z at*;refine wV 0 s ?_;refine wV 1 s ?_;refine wV 2 s ?_;refine wV 3 s ?_;refine wV 4 s ?_;refine wV 5 s ?_;refine wV 6 s ?_;refine wV 7 s ?_;refine wV 8 s ?_;refine wV 9 s ?_;refine wD ?_;go_wp2
     go_ret;exact ⟨by rw [HD.o];rfl,s⟩
   .obtain rfl:i=n:=ae
    have HD:Hid (iU a b=false):=by
     show _=_;rw [<-HE.o,List.drop_of_length_le (bA HN.o),List.drop_of_length_le (bA HN.o)];rfl
    go_wp2
    go_ret;exact ⟨by rw [HD.o];rfl,hX⟩
 .have hB:iU a b=decide (a.length<b.length):=by unfold iU;rw [if_neg hl]
  have HB:=ah hB;have t:((a.length:Int) !=(b.length:Int))=true:=by simp;omega
  clear hB hl ha hb;go_enter func50,ntmps50
  go_wp2
  go_ret;exact ⟨by rw [HB.o];rfl,ar⟩
structure kF where
 a:Option Addr
 c:Nat
 rs:List cH
def kF.cells (o:kF):List Value:= [.slice o.a o.rs.length o.c]
structure lD (w:World) (o:kF) (f:Nat->Rat):Prop where
 le:o.rs.length<=o.c/\o.c<=9223372036854775807
 cell: ∀i (h:i<o.rs.length),∃b g,o.a=some ⟨b,g,none⟩/\Cs w b (g+i*3) 0 o.rs[i].cells/\jZ w o.rs[i] (f i) 4
structure ow (w:World) (a:Option Addr) (c:Nat) (on:List kF) (f:Nat->Nat->Rat):Prop where
 recs:ct w 1 a c (on.map kF.cells)
 row: ∀u (h:u<on.length),lD w on[u] (f u)
theorem Cs.ext {w w':World} {b o:Nat} (e:Ext w w'): ∀{l:List Value} {j:Nat},Cs w b o j l->Cs w' b o j l
 | [],_,_=>trivial
 |_::_,_,h=>⟨aC e h.1,Cs.ext e h.2⟩
theorem lD.ext {w w':World} {o:kF} {f:Nat->Rat} (h:lD w o f) (e:Ext w w'):lD w' o f:=
 ⟨h.le,λi hi=>by obtain ⟨b,g,h1,h2,h3⟩:=h.cell i hi;exact ⟨b,g,h1,h2.ext e,h3.ext e⟩⟩
theorem ow.ext {w w':World} {a:Option Addr} {c:Nat} {on:List kF} {f:Nat->Nat->Rat} (h:ow w a c on f) (e:Ext w w'):ow w' a c on f:=⟨h.recs.ext e,λu hu=>(h.row u hu).ext e⟩
theorem ow.at {w:World} {a:Option Addr} {c:Nat} {on:List kF} {f:Nat->Nat->Rat} (h:ow w a c on f) (u:Nat) (hu:u<on.length): ∃b o x,a=some ⟨b,o,none⟩/\x=on[u]/\lD w x (f u)/\ ∀Y,Ext w Y->Y.cell? ⟨b,o+u,none⟩=some (.slice x.a x.rs.length x.c):=by
 obtain ⟨b,o,ha,hc⟩:=h.recs.cs u hu;refine ⟨b,o,on[u],ha,rfl,h.row u hu,λY e=> ?_⟩;have:=hc.1;rw [Nat.mul_one,Nat.add_zero]at this;exact aC e this
theorem Gd (V:World) (a:Option Addr) (c:Nat) (on:List kF) (f:Nat->Nat->Rat) (hO:ow V a c on f) (k:Nat) (hk: ∀x∈on,k<x.rs.length) (l:List Nat) (ua:Option Addr) (uc:Nat) (hI:aS V ua uc (aR l)) (hl: ∀u∈l,u<on.length) (hn:l.length<=4):
 Calls prog 49 #[.slice a on.length c,.slice ua l.length uc,.int .i64 (k:Int)] V λe w'=> ∃r:cH,e= .returned (.agg #[.bool r.s,.slice r.a r.k r.c,.slice r.b r.j r.d])/\jZ w' r (lN (λu=>f u k) l) (1+7*l.length)/\Ext V w':=by
 have hle:=hI.le;have dS:=hI.cap;have sy:=hO.recs.le;have Dw:=hO.recs.cap
 rw [aN]at hle;rw [List.length_map]at sy;have HO:=ah hO;have HI:=ah hI;have HK:=ah hk;have HL:=ah hl
 clear hO hI hk hl;go_enter func49,ntmps49
 go_upto_region 1 with fail
 generalize hW:World.alloc V _=W;obtain ⟨R,hR,x0,A0⟩:=bV hW;rw [<-hR];have HX:=ah x0;have HR:=ah hR;have Zs:=ah A0
 clear hW hR x0 A0;go_wp2_with fail
 refine (IU W).mono ?_;rintro e w1 ⟨r,rfl,hN,mA,x1⟩;go_upto_region 2 with(refine bP rfl 92 _ _ rfl [.bool false,.slice none 0 0,.slice none 0 0] [.bool r.s,.slice r.a r.k r.c,.slice r.b r.j r.d] rfl rfl ax rfl rfl ?_)
 generalize hW2:World.alloc w1 _=W2;obtain ⟨B,hB,x2,A2⟩:=bV hW2;rw [<-hB];have H0:Hid (jZ W2 r (lN (λu=>f u k) (l.take 0)) (1+7*0)/\qN r (some R)):=⟨hN.ext x2,nM mA Zs.o.lt⟩;have Zb:Hid (W.heap.size<=B):=by have:=x1.size;show _<=_;omega
 have eR:=ah (x1.trans x2);have H2:=ah A2
 clear hW2 hB x2 A2 hN mA x1;go_wp2
 go_loopw [8] (λii wr=> ∃(i:Nat) (r:cH),i<=l.length/\ii= .int .i64 i/\aT wr B 92 [.bool r.s,.slice r.a r.k r.c,.slice r.b r.j r.d]/\(jZ wr r (lN (λu=>f u k) (l.take i)) (1+7*i)/\qN r (some R))/\Ext W wr) (λii _=>l.length-(intOf ii).toNat)
 case atStart=>exact ⟨0,r,aZ,rfl,H2.o,H0.o,eR.o⟩
 case round=>
  clear H0 H2 eR;obtain ⟨i,r,hi,rfl,hA,hN,hX⟩:=hrel;have HA:=ah hA;have HN:=ah hN;have eR:=ah hX
  have G: ∀Y,Ext wr Y->_:=λY e=>(hA.ext e).cs;simp only [Cs,Nat.zero_add]at G;clear hA hN hX;by_cases hlt:i<l.length
  .have b1:(i:Int)<(l.length:Int):=ae
   have b0:(0:Int)<=(i:Int):=ae;obtain ⟨g1,o1,rfl,c1⟩:=BW (HI.o.ext (HX.o.trans eR.o)) i hlt;have hu:=HL.o l[i] (List.getElem_mem hlt);obtain ⟨g2,o2,x,rfl,hx,hrow,c2⟩:=(HO.o.ext (HX.o.trans eR.o)).at l[i] hu;have hkx:k<x.rs.length:=HK.o x (by rw [hx];exact List.getElem_mem hu);obtain ⟨g3,o3,Ko,hc3,Nz⟩:=hrow.cell k hkx;have Ge:=hrow.le;rw [Ko]at c2;have c3: ∀Y,Ext wr Y->_:=λY e=>hc3.ext e;simp only [Cs,cH.cells,Nat.add_zero]at c3;have HT:Hid (lN (λu=>f u k) (l.take (i+1))=lN (λu=>f u k) (l.take i)+f l[i] k):=by show _=_;rw [List.take_succ_eq_append_getElem hlt,rS]
   have HAD:=ah (λU (hU:Ext wr U)=>Lb U r x.rs[k] _ _ (1+7*i) 4 (HN.o.1.ext hU) (Nz.ext hU) ae);generalize lN (λu=>f u k) (l.take i)=q0 at HT HAD;generalize f l[i] k=q at HT HAD;generalize l[i]=u at*;generalize x.rs[k]=r3 at*;have d1:(u:Int)<(on.length:Int):=ae;have d0:(0:Int)<=(u:Int):=ae;have e1:(k:Int)<(x.rs.length:Int):=ae;have e0:(0:Int)<=(k:Int):=ae;clear hx hrow Ko hc3 Nz HN;go_wp2_with fail
   refine zG 12 (λw=>Ext wr w) ((Ext.refl wr).drew) λs=> ?_;have HBY:Hid (B<wr.drew.heap.size):=by have:=HA.o.lt;have:=s.size;show _<_;omega
   generalize wr.drew=Y at*;refine zV 0 s ?_;refine zV 1 s ?_;refine zV 2 s ?_;refine zV 3 s ?_;refine zV 4 s ?_;refine zV 5 s ?_;refine zV 6 s ?_;refine zV 7 s ?_;refine zV 8 s ?_;refine zV 9 s ?_;refine zV 10 s ?_;refine zR 11 λK' hK=> ?_;rw [if_pos eN];go_simp;refine (HAD.o Y s).mono ?_;rintro e w3 ⟨r4,rfl,hN4,mA,x3⟩;refine hK.o _ _ (s.trans x3) λs=> ?_;have Kk:=HA.o.ext s;have f3:=λi=>Kk.frozen i;clear hK K';refine zL 12 λK' hK=> ?_;rw [if_pos eN];go_simp;refine hK.o _ _ ?_;have G7:=((Kk.set 0 (.bool r4.s)).set 1 (.slice r4.a r4.k r4.c)).set 2 (.slice r4.b r4.j r4.d);have s4:=(aB.refl B w3).ez (o:=0) (v:= .bool r4.s)|>.ez (o:=1) (v:= .slice r4.a r4.k r4.c)|>.ez (o:=2) (v:= .slice r4.b r4.j r4.d)
   have HN5:=ah (And.intro ((hN4.but s4 (nM mA HBY.o)).mono (show _<=1+7*(i+1) by omega)) (nM mA (show R<_ by have:=HBY.o;have:=Zb.o;have:=Zs.o.lt;omega)));have pV:=ah (s4.ext (eR.o.trans s) Zb.o);have yw:=ah G7;rw [<-HT.o]at HN5;clear hK K' Kk f3 G7 s4 hN4 mA x3 s G c1 c2 c3;go_wp2
   exact ⟨⟨i+1,r4,hlt,bf,yw.o,HN5.o,pV.o⟩,a_⟩
  .obtain rfl:i=l.length:=ae
   have hR:=Zs.o.ext eR.o;have hRB:R≠B:=qj Zs.o.lt Zb.o;have fR:=λi=>hR.frozen i;have cR:=hR.cs;simp only [Cs,Nat.zero_add]at cR;have s:=Ext.refl wr;go_wp2_with fail
   have hR4:=((hR.set 0 (.bool r.s)).set 1 (.slice r.a r.k r.c)).set 2 (.slice r.b r.j r.d);have sR:=(aB.refl R wr).ez (o:=0) (v:= .bool r.s)|>.ez (o:=1) (v:= .slice r.a r.k r.c)|>.ez (o:=2) (v:= .slice r.b r.j r.d)
   have hN:=HN.o.1;rw [List.take_length]at hN;exact bodyPost_ret (v:= .agg #[.bool r.s,.slice r.a r.k r.c,.slice r.b r.j r.d]) (jo 6 _ rfl rfl hR4 underlying92 rfl ax) rfl ⟨r,rfl,hN.but sR HN.o.2,sR.ext (HX.o.trans eR.o) (bA HR.o)⟩
theorem Tryz.info_boolR:(Tryz.prog.info? 4).map (λi=>(i.zero,i.size,i.bytes))=some (some (.bool false),1,1):=ax
theorem Gf (w0 V:World) (c:ay) (h:Nat) (l:List Int) (a:Option Addr) (cap:Nat) (hV:Ext w0 V) (hc:bm w0 c) (gA:iB c) (hI:aS V a cap l):
 Calls prog 78 #[.agg (C8 c),.int .i64 (h:Int),.slice a l.length cap,.int .i64 0] V λe w'=>e= .returned (i64 (i9 c h l c.aA.length))/\Ext V w':=by
 try unfold C8
 have Vb:=ah gA.frame.aA;have L_:=ah (o5 gA (h:Int) l);have Qe:=ah (mb gA (h:Int));have BM:=ah (λU (hU:Ext V U) u (hu:u<c.aA.length)=>BN w0 U c u (h:Int) (hV.trans hU) hc hu);have vH:=ah (λU (hU:Ext V U) (k:Nat)=>Ln U a cap l (k:Int) (hI.ext hU));clear hc gA hI hV;go_enter func78,ntmps78
 go_upto_region 1 with fail
 generalize hW:World.alloc V _=W;obtain ⟨B,hB,x0,A0⟩:=bV hW;rw [<-hB];have HX:=ah x0;have HA:=ah A0
 obtain ⟨-,-,-,-,k4,-⟩:=ay.at A0;clear hW hB x0 A0;have hcu:=Vb.o;go_wp2_with (at_make;refine bS _ rfl _ _ 178 rfl 4 (.bool false) 1 underlying178 Tryz.info_boolR rfl _ _ c.aA.length rfl rfl rfl rfl ae ae ?_;intro w1 eL hx1 hz1)
 have eC:=ah hx1;clear eL hx1 hz1 k4;go_loopw [9,11] (λsv ii wr=> ∃k:Nat,k<=c.aA.length/\sv= .int .i64 (i9 c h l k)/\Ext W wr/\ii= .int .i64 k) (λ_ ii _=>c.aA.length-(intOf ii).toNat)
 case atStart=>exact ⟨0,aZ,rfl,eC.o,rfl⟩
 case round=>
  obtain ⟨k,hk,rfl,hE,rfl⟩:=hrel;have HE:=ah hE;clear eC hE;obtain ⟨k0,k1,k2,k3,k4,k5,k6,k7⟩:=ay.at (HA.o.ext HE.o);have rZ:=ah (HX.o.trans HE.o);by_cases hlt:k<c.aA.length
  .have HK:=ah hlt
   have Ke:=ah (nJ c h l k);have hr1:=L_.o k;have hr2:=Qe.o k
   have Ja:=ah (vH.o wr rZ.o k);have qM:=ah (BM.o wr rZ.o k hlt)
   obtain ⟨s,hs⟩: ∃s,s=i9 c h l k:=⟨_,rfl⟩;obtain ⟨z,hz⟩: ∃z,z=dG c h k:=⟨_,rfl⟩;rw [<-hs]at Ke hr1⊢;rw [<-hz]at Ke hr2 qM
   have hw:IntKind.i64.wrap (s+z)=s+z:=dW;clear hr1 hr2 hs hz;generalize hasB l (k:Int)=q at*;cases q with
   |true=>
    go_wp2_with fail
    refine Ja.o.mono ?_;rintro e w1 ⟨rfl,eL⟩;rw [eL];clear eL
    go_wp2
    exact ⟨⟨k+1,HK.o,by rw [Ke.o];rfl,HE.o,bf⟩,by have:=HK.o;simp only [intOf];omega⟩
   |false=>
    go_wp2_with fail
    refine Ja.o.mono ?_;rintro e w1 ⟨rfl,eL⟩;rw [eL];clear eL
    go_wp2_with fail
    refine qM.o.mono ?_;rintro e w2 ⟨rfl,x2⟩;have yP:=ah (HE.o.trans x2);clear x2 k0 k1 k2 k3 k4 k5 k6 k7;go_wp2
    exact ⟨⟨k+1,HK.o,by rw [Ke.o];rfl,yP.o,bf⟩,by have:=HK.o;simp only [intOf];omega⟩
  .obtain rfl:k=c.aA.length:=ae
   go_wp2_with fail
   clear k0 k1 k2 k3 k4 k5 k6 k7;go_loopw [3,9] (λnv sv wl=>nv= .int .i64 0/\sv= .int .i64 (i9 c h l c.aA.length)/\wl=wr) (λnv _ _=>(intOf nv).toNat)
   case atStart=>exact ⟨rfl,rfl,rfl⟩
   case round=>
    obtain ⟨rfl,rfl,rfl⟩:=hrel;go_wp2
    go_ret;exact ⟨rfl,rZ.o⟩
theorem D5 (w0 V:World) (c:ay) (h:Nat) (l:List Int) (a:Option Addr) (cap:Nat) (hV:Ext w0 V) (hc:bm w0 c) (gA:iB c) (hh:(h:Int)<c.hours) (hI:aS V a cap l):
 Calls prog 34 #[.agg (C8 c),.int .i64 (h:Int),.slice a l.length cap,.int .i64 1] V λe w'=>e= .returned (.bool (decide (i9 c h l c.aA.length<jx c h)))/\Ext V w':=by
 try unfold C8
 have HRE:=ah (λU (hU:Ext V U)=>Gf w0 U c h l a cap (hV.trans hU) hc gA (hI.ext hU));have qO:=ah (λU (hU:Ext V U)=>L8 w0 U c h (hV.trans hU) hc gA hh);generalize i9 c h l c.aA.length=rv at*;generalize jx c h=nv at*;clear hc gA hI hV hh;go_enter func34,ntmps34
 go_upto_region 1 with fail
 generalize hW:World.alloc V _=W;obtain ⟨B,hB,x0,A0⟩:=bV hW;rw [<-hB];have F: ∀Y,Ext W Y->_:=λY e=>ay.at (A0.ext e);have HX:=ah x0;clear hW hB x0 A0;refine wG (λw=>Ext W w) ((Ext.refl W).drew) λs=> ?_;generalize W.drew=Y at*;refine wV 0 s ?_;refine wV 1 s ?_;refine wV 2 s ?_;refine wV 3 s ?_;refine wV 4 s ?_;refine wV 6 s ?_;refine wV 7 s ?_;refine wR 5 λK' hK=> ?_;rw [if_pos eN];go_simp;refine (HRE.o Y (HX.o.trans s)).mono ?_;rintro e w1 ⟨rfl,x1⟩;refine hK.o _ _ (s.trans x1) λs=> ?_;clear hK K' x1;refine wR 8 λK' hK=> ?_;go_simp;refine (qO.o w1 (HX.o.trans s)).mono ?_;rintro e w2 ⟨rfl,x2⟩;refine hK.o _ _ (s.trans x2) λs=> ?_;clear hK K' x2;refine wV 9 s ?_;refine wV 10 s ?_;refine wD ?_;go_wp2
 go_ret;exact ⟨rfl,HX.o.trans s⟩
def pd (c:ay) (f:Nat->Nat->Rat) (h:Nat):List Nat:=vW c.aA.length (λu=>f u h) (dG c h) (jx c h)
def nN (c:ay) (f:Nat->Nat->Rat):Nat->List (Nat×List Nat)
 |0=> []
 |h+1=>nN c f h++if pd c f h= []then []else [(h,pd c f h)]
theorem D6 (c:ay) (f:Nat->Nat->Rat) (h:Nat):(nN c f h).length<=h:=by
 induction h with
 |zero=>exact bY
 |succ h ih=>rw [nN,List.length_append];split<;>simp<;>omega
def pN (c:ay) (on:List kF):Prop:=on.length=c.aA.length/\ ∀x∈on,(x.rs.length:Int)=c.hours
def tj (c:ay) (f:Nat->Nat->Rat):Prop:= ∀u,u<c.aA.length-> ∀h:Nat,(h:Int)<c.hours->0<=f u h/\f u h<=1
open Classical in
noncomputable def pg (c:ay) (on:List kF) (f:Nat->Nat->Rat):Int:=if cE c≠0 then cE c else if¬pN c on then 4 else if¬tj c f then 3 else 0
structure kN where
 h:Nat
 l:List Nat
 a:Option Addr
 k:Nat
def kN.cells (x:kN):List Value:= [i64 0,.int .i64 (x.h:Nat),.slice x.a x.l.length x.k,i64 1,i64 0,i64 0]
structure CL (D:Nat) (ga:Option Addr) (gc:Nat) (cs:List kN) (w:World):Prop where
 own:aL w D 24 6 (.slice ga cs.length gc) (cs.map kN.cells)
 row: ∀x∈cs,aS w x.a x.k (aR x.l)/\ ∀p,x.a=some p->p.block<w.heap.size/\ ∀q,ga=some q->p.block≠q.block
theorem CL.nil (D:Nat) (w:World):CL D none 0 [] w:=⟨aL.nil _ _ _ _,λx h=>nomatch h⟩
theorem CL.ext {D:Nat} {ga:Option Addr} {gc:Nat} {cs:List kN} {w w':World} (h:CL D ga gc cs w) (e:Ext w w'):CL D ga gc cs w':=
 ⟨h.own.ext e,λx hx=>⟨(h.row x hx).1.ext e,λp hp=>⟨Nat.lt_of_lt_of_le ((h.row x hx).2 p hp).1 e.size,((h.row x hx).2 p hp).2⟩⟩⟩
theorem CL.put {D K:Nat} {ga g2:Option Addr} {gc k2:Nat} {cs:List kN} {w w':World} {x:kN} (h:CL D ga gc cs w) (hx:aS w x.a x.k (aR x.l)) (hp: ∀p,x.a=some p->p.block<w.heap.size/\ ∀q,ga=some q->p.block≠q.block)
 (ho:aL w' D 24 6 (.slice g2 (cs.length+1) k2) (cs.map kN.cells++ [x.cells])) (hK:K=w.heap.size\/ ∃q,ga=some q/\q.block=K) (hg: ∀q,g2=some q->w.heap.size<=q.block\/ ∃p,ga=some p/\p.block=q.block) (e:aB K w w'):CL D g2 k2 (cs++ [x]) w':=by
 have hl:(cs++ [x]).length=cs.length+1:=aG;have hs:=e.size
 have key: ∀y:kN,(aS w y.a y.k (aR y.l)/\ ∀p,y.a=some p->p.block<w.heap.size/\ ∀q,ga=some q->p.block≠q.block)->aS w' y.a y.k (aR y.l)/\ ∀p,y.a=some p->p.block<w'.heap.size/\ ∀q,g2=some q->p.block≠q.block:=λy q=>by
  refine ⟨q.1.eH e λp hp=> ?_,λp hp=>⟨bA ((q.2 p hp).1),λq2 Nk=> ?_⟩⟩
  .have h1:=q.2 p hp
   rcases hK with r|⟨r,r1,r2⟩
   .omega
   .rw [<-r2];exact h1.2 r r1
  .have h1:=q.2 p hp
   rcases hg q2 Nk with r|⟨r,r1,r2⟩
   .omega
   .rw [<-r2];exact h1.2 r r1
 refine ⟨by rw [hl,List.map_append];exact ho,λy hy=> ?_⟩;rcases List.mem_append.1 hy with q|q
 .exact key y (h.row y q)
 .rw [List.mem_singleton]at q;subst q;exact key y ⟨hx,hp⟩
def iP (V:World) (c:ay) (on:List kF) (f:Nat->Nat->Rat) (e:Ending) (w':World):Prop:=Ext V w'/\((pg c on f≠0/\e= .returned (.tuple #[.slice none 0 0,i64 (pg c on f)]))\/
 (pg c on f=0/\ ∃(D:Nat) (ga:Option Addr) (gc:Nat) (cs:List kN),e= .returned (.tuple #[.slice ga cs.length gc,i64 0])/\CL D ga gc cs w'/\cs.map (λx=>(x.h,x.l))=nN c f c.hours.toNat))
theorem BZ (n:Nat) (x:Nat->Rat) (cap:Nat->Int) (need:Int) (b:Nat) (h:0<b):(((List.range (b+1)).drop 1).map (λb=>members b n)).foldl (fD n x cap need) []=fD n x cap need ((((List.range b).drop 1).map (λb=>members b n)).foldl (fD n x cap need) []) (members b n):=by
 rw [List.range_succ,List.drop_append_of_le_length (by simp;omega),List.map_append,List.foldl_append];rfl
theorem sign_neg {q:Rat}:q.num.sign<0↔q<0:=by
 rw [<-Rat.not_le,<-Rat.num_nonneg];rcases Int.lt_trichotomy q.num 0 with h|h|h
 .rw [Int.sign_eq_neg_one_of_neg h];omega
 .rw [h];simp
 .rw [Int.sign_eq_one_of_pos h];omega
