/- Texts of the proof. -/
import Derived.Test.YtkpngkdgphojlaaGreatCc7
import Derived.Test.YtkpngkdgphojlaaGreatCc9
set_option linter.all false
namespace Go.Proofs.YtkpngkdgphojlaaGreat
open Go.RowKit
open Classical in
noncomputable def wS (E:List (Nat×Nat)) (b:Nat):Bool:=decide (∀k,k<b→ ¬g_ E k b)
open Classical in
theorem tx (E:List (Nat×Nat)) (b:Nat):wS E b=true↔ ∀k,k<b→ ¬g_ E k b:=by unfold wS;exact decide_eq_true_iff
noncomputable def comps (n:Nat) (E:List (Nat×Nat)):Nat:=(List.range n).countP (wS E)
theorem jK.comps {n:Nat} {E:List (Nat×Nat)} {f:Nat→Nat} (h:jK n E f):cls f n=Go.Proofs.YtkpngkdgphojlaaGreat.comps n E:=by
 unfold cls Go.Proofs.YtkpngkdgphojlaaGreat.comps;apply List.countP_congr;intro b hb;have Pp:=List.mem_range.1 hb;rw [fq];rw [tx];constructor
 ·intro hf k hk hc;exact hf k hk ((h k b (by omega) Pp).2 hc)
 ·intro hc k hk hf;exact hc k hk ((h k b (by omega) Pp).1 hf)
theorem A8 {n:Nat} {E F:List (Nat×Nat)} (h: ∀p∈E,p∈F):comps n F≤comps n E:=by
 unfold comps;apply List.countP_mono_left;intro b _ hb;rw [tx]at*;intro k hk hc;exact hb k hk (hc.mono h)
theorem yL (n:Nat) (E:List (Nat×Nat)):comps n E≤n:=by
 unfold comps;have:=List.countP_le_length (p:=wS E) (l:=List.range n);rw [List.length_range]at this;exact this
def iQ (f:Nat→Nat) (n:Nat):List Int:=(List.range n).map fun b=>((f b:Nat):Int)
theorem fT (f:Nat→Nat) (n:Nat):(iQ f n).length=n:=by simp [iQ]
theorem A_ (f:Nat→Nat) (n b:Nat) (h:b<n):eF (iQ f n) b=((f b:Nat):Int):=by
 unfold eF iQ;simp [h]
theorem iP.ints {w:World} {B:Nat} {f:Nat→Nat} {n:Nat} (h:iP w B f n) (hn:n≤1000000) (hf: ∀b,b<n→f b≤n):aA w (some ⟨B,0,none⟩) n (iQ f n):=
 ⟨by rw [fT];exact Nat.le_refl _,by omega,fun i hi=>by
   have hi':i<n:=by rw [fT]at hi;exact hi
   refine ⟨B,0,rfl,?_⟩;rw [Nat.zero_add,(h.cell i hi').1];simp [iQ],fun i hi=>by
   have hi':i<n:=by rw [fT]at hi;exact hi
   have:=hf i hi';simp [iQ];omega⟩
theorem yM {n:Nat} {E:List (Nat×Nat)} {f:Nat→Nat} (h:iZ n E f) (he: ∀p∈E,f p.1=f p.2):uF (iQ f n) n=comps n E:=by
 rw [←(h.tells he).comps];unfold uF cls;apply List.countP_congr;intro b hb;have Pp:=List.mem_range.1 hb;rw [A_ f n b Pp,←h.first he b Pp];simp only [beq_iff_eq];omega
def ja (E:List (Nat×Nat)) (gone:List Int):Nat→List (Nat×Nat)
 |0=> []
 |n+1=>if hasB gone n=true then ja E gone n else ja E gone n++ [E.getD n (0,0)]
theorem qi (E:List (Nat×Nat)) (gone:List Int): ∀n,n≤E.length→ ∀p∈ja E gone n,p∈E
 |0,_,p,h=>by simp [ja]at h
 |n+1,hn,p,h=>by
  unfold ja at h;split at h
  ·exact qi E gone n (by omega) p h
  ·rcases List.mem_append.1 h with h|h
   ·exact qi E gone n (by omega) p h
   ·rw [List.mem_singleton]at h
    subst h;rw [List.getD_eq_getElem?_getD,List.getElem?_eq_getElem (by omega)];exact List.getElem_mem _
theorem lu (E:List (Nat×Nat)) (gone:List Int): ∀n,(ja E gone n).length≤n
 |0=>Nat.le_refl _
 |n+1=>by
  have:=lu E gone n;unfold ja;split
  ·omega
  ·rw [List.length_append];simp;exact this
theorem uH (E:List (Nat×Nat)) (p:Nat×Nat):d_ (E++ [p])=d_ E++ [[i64 ((p.1:Nat):Int),i64 ((p.2:Nat):Int)]]:=by simp [d_]
noncomputable def F_ (n:Nat) (E:List (Nat×Nat)) (gone:List Int):Bool:=decide (comps n E<comps n (ja E gone E.length))
set_option maxHeartbeats 1000000 in
set_option maxRecDepth 100000 in
theorem uI (V:World) (n:Nat) (a:Option Addr) (c:Nat) (E:List (Nat×Nat)) (b:Option Addr) (cb:Nat) (gone:List Int) (hn:n≤1000000) (hE:E.length≤1000000) (hP:bP V 2 a c (d_ E)) (hb: ∀p∈E,p.1<n∧p.2<n) (hG:aA V b cb gone):
 Calls Tryz.prog 64 #[.int .i64 (n:Int),.slice a E.length c,.slice b gone.length cb] V fun e w'=>e= .returned (.bool (F_ n E gone))∧Ext V w':=by
 have hle:=hP.le;have di:=hP.cap
 rw [dY]at hle;have HP:=ae hP;have kr:=ae hb;have HG:=ae hG
 clear hP hb hG;go_enter Tryz.func64,Tryz.ntmps64
 go_wp2_with fail
 go_loopw [7,8] (fun v ii wr=> ∃i:Nat,i≤E.length∧aH wr V.heap.size 166 2 v (d_ (ja E gone i))∧Ext V wr∧ii= .int .i64 i) (fun _ ii _=>E.length-(intOf ii).toNat)
 case atStart=>exact ⟨0,Nat.zero_le _,aH.nil _ _ _ _,Ext.refl _,rfl⟩
 case round=>
  obtain ⟨i,hi,hown,hX,rfl⟩:=hrel;have HO:=ae hown;clear hown;by_cases hlt:i<E.length
  ·obtain ⟨pb,po,ha,r0,r1⟩:=qW (HP.out.ext hX) i hlt
   have gO:=ae (wA wr b cb gone (i:Int) (HG.out.ext hX))
   have HST:Hid (ja E gone (i+1)=if hasB gone i=true then ja E gone i else ja E gone i++ [E[i]]):=by
    show _=_;have:E.getD i (0,0)=E[i]:=by rw [List.getD_eq_getElem?_getD,List.getElem?_eq_getElem hlt];rfl
    rw [←this];rfl
   have Ga:=ae (lu E gone i);generalize ja E gone i=rs at*;obtain ⟨⟨x,y⟩,sU⟩: ∃p,p=E[i]:=⟨_,rfl⟩;rw [←sU]at r0 r1 HST;simp only at r0 r1;have fM:(0:Int)≤(i:Int):=by omega
   have fH:(i:Int)<(E.length:Int):=by omega
   have HE:=ae hX;have se:=hX.size
   have j3:=ae ha;clear hX sU ha;rw [j3.out];rcases Bool.eq_false_or_eq_true (hasB gone i)with hq|hq
   ·rw [hq]at gO HST
    clear hq;go_wp2_with fail
    refine gO.out.mono ?_;rintro e w1 ⟨rfl,eE⟩;rw [eE];clear eE
    go_wp2_with fail
    exact ⟨⟨i+1,by omega,by rw [HST.out];simpa using HO.out,HE.out,by go_num⟩,by simp only [intOf];omega⟩
   ·rw [hq]at gO HST
    clear hq
    have HOW:Hid (wr.ownsRow V.heap.size 166 2 u7 rs.length (d_ rs).flatten):=by
     have h5:=HO.out.own;rw [dY]at h5;exact h5
    go_wp2_with fail
    refine gO.out.mono ?_;rintro e w1 ⟨rfl,eE⟩;rw [eE];clear eE
    go_wp2_with (at_builtin;refine aV _ rfl (.tmp 19) (.tmp 24) 108 rfl V.heap.size 166 (.agg #[i64 0,i64 0]) 2 16 Tryz.underlying108 Tryz.info_pair rfl (by decide) u7 rs.length (d_ rs).flatten rfl ?c1 (some ⟨wr.heap.size,0,none⟩) 1 1 [i64 (x:Int),i64 (y:Int)] rfl rfl ?c2 ?c3 ?c4 ?c5 (by decide) ?c6 ?_;rotate_right;intro v1 w5 ho he hb hz hv)
    case c1=>exact bG HOW.out ((Ext.refl _).alloc _)
    case c2=>exact fun _=>⟨_,rfl,cC wr 166 [i64 (x:Int),i64 (y:Int)]⟩
    case c3=>intro u hu;simp only [List.mem_cons,List.not_mem_nil,or_false]at hu;rcases hu with rfl|rfl<;>rfl
    case c4=>intro e;cases e
    case c5=>have:=Ga.out;omega
    case c6=>have:=se;simp;omega
    have x5:Ext V w5:=he.out V (HE.out.alloc _) (Nat.le_refl _);have iC:=HO.out.snoc (w':=w5) (v':=v1) (r:= [i64 (x:Int),i64 (y:Int)]) rfl (by rw [dY];exact ho.out);rw [←uH rs (x,y)]at iC;exact ⟨⟨i+1,by omega,by rw [HST.out];simpa using iC,x5,by go_num⟩,by simp only [intOf];omega⟩
  ·obtain rfl:i=E.length:=by omega
   obtain ⟨ra,rc,rfl,hS,-⟩:=HO.out.recs (by decide);rw [dY];have nO:=qi E gone E.length (Nat.le_refl _);have EN:=lu E gone E.length;have T8:Hid (F_ n E gone=decide (comps n E<comps n (ja E gone E.length))):=rfl;generalize ja E gone E.length=R at*;have Xz: ∀p∈R,p.1<n∧p.2<n:=fun p hp=>kr.out p (nO p hp);have Mc:=ae (qX wr n ra rc R hn (by omega) hS Xz);have HX:=ae hX;clear hS nO EN Xz HO hX;go_wp2_with fail
   refine Mc.out.mono ?_;rintro e w1 ⟨B1,f1,rfl,Gb,x1,-,T9,XA⟩;have KY:=vL w1 _ n (iQ f1 n) (Gb.ints hn (fun b hb=>Nat.le_trans (T9.le b hb) (by omega)));rw [fT,yM T9 XA]at KY;have KY:=ae KY;have eK:=ae (HX.out.trans x1);have oJ:=yL n R;generalize comps n R=k1 at*;clear Gb x1 T9 XA Mc;go_wp2_with fail
   refine KY.out.mono ?_;rintro e w2 ⟨rfl,hw2⟩;rw [hw2];clear hw2
   have IB:=ae (qX w1 n a c E hn hE (HP.out.ext eK.out) kr.out);go_wp2_with fail
   refine IB.out.mono ?_;rintro e w3 ⟨B3,f3,rfl,Gc,x3,-,hL3,Pq⟩;have SU:=vL w3 _ n (iQ f3 n) (Gc.ints hn (fun b hb=>Nat.le_trans (hL3.le b hb) (by omega)));rw [fT,yM hL3 Pq]at SU;have SU:=ae SU;have jY:=ae (eK.out.trans x3);have hk2:=yL n E;generalize comps n E=k2 at*;clear Gc x3 hL3 Pq IB;go_wp2_with fail
   refine SU.out.mono ?_;rintro e w4 ⟨rfl,hw4⟩;rw [hw4];clear hw4
   go_wp2_with fail
   go_ret;exact ⟨by rw [T8.out];rfl,jY.out⟩
def St.wT (s:St) (n:Int) (field:Int) (l:List Int):St:=l.foldl (fun s v=>s.need (decide (0≤v)&&decide (v<n)) field 12) s
def St.Jm (s:St) (l:List bH):St:=l.foldl (fun s m=>(s.within 3 m.up 0 1048576).within 3 m.down 0 1048576) s
def St.moves (s:St) (c:aq) (x:bI):St:=
 if((s.need (decide (x.moves.length=0)||x.bJ) 3 16).need (decide ((x.moves.length:Int)≤16)) 3 8).err≠0 then(s.need (decide (x.moves.length=0)||x.bJ) 3 16).need (decide ((x.moves.length:Int)≤16)) 3 8
 else(((((s.need (decide (x.moves.length=0)||x.bJ) 3 16).need (decide ((x.moves.length:Int)≤16)) 3 8).wT c.aj.length 3 (x.moves.map bH.unit)).need (gG (x.moves.map bH.unit)) 3 11)).Jm x.moves
def St.j7 (c:aq) (x:bI) (prev:List ByteArray) (i:Int) (s:St):St:=
 if((((s.at 6 i).name x.name prev).need (decide (x.lines.length=1)||decide (x.lines.length=2)) 1 4)).err≠0 then((s.at 6 i).name x.name prev).need (decide (x.lines.length=1)||decide (x.lines.length=2)) 1 4
 else(((((s.at 6 i).name x.name prev).need (decide (x.lines.length=1)||decide (x.lines.length=2)) 1 4).wT c.lines.length 1 x.lines).need (gG x.lines) 1 11).moves c x
def St.gP (c:aq) (s:St) (n:Nat):St:=(List.range n).foldl (fun s i=>match c.outs[i]? with|some x=>St.j7 c x ((c.outs.take i).map bI.name) i s|none=>s) s
def St.outs (s:St) (c:aq):St:=St.gP c s c.outs.length
theorem St.yN (c:aq) (s:St) (i:Nat) (h:i<c.outs.length):St.gP c s (i+1)=St.j7 c c.outs[i] ((c.outs.take i).map bI.name) i (St.gP c s i):=by
 unfold St.gP;rw [List.range_succ,List.foldl_append,List.foldl_cons,List.foldl_nil,List.getElem?_eq_getElem h]
theorem St.yO (s:St) (n f:Int) (l:List Int) (v:Int):s.wT n f (l++ [v])=(s.wT n f l).need (decide (0≤v)&&decide (v<n)) f 12:=by
 unfold St.wT;rw [List.foldl_append];rfl
theorem St.Gd (s:St) (n f:Int) (l:List Int) (i:Nat) (h:i<l.length):s.wT n f (l.take (i+1))=(s.wT n f (l.take i)).need (decide (0≤l[i])&&decide (l[i]<n)) f 12:=by
 rw [List.take_succ_eq_append_getElem h,St.yO]
theorem St.Ge (s:St) (l:List bH) (i:Nat) (h:i<l.length):s.Jm (l.take (i+1))=((s.Jm (l.take i)).within 3 l[i].up 0 1048576).within 3 l[i].down 0 1048576:=by
 unfold St.Jm;rw [List.take_succ_eq_append_getElem h,List.foldl_append];rfl
theorem St.Me (s:St) (k i:Int) (h:s.err≠0):s.at k i=s:=by unfold St.at;rw [if_neg h]
theorem St.Gf (s:St) (nm:ByteArray) (prev:List ByteArray) (h:s.err≠0):s.name nm prev=s:=by
 unfold St.name;rw [St.fQ _ _ _ _ h,St.mr _ _ _ h]
theorem St.yP (c:aq) (x:bI) (prev:List ByteArray) (i:Int) (s:St) (h:s.err≠0):St.j7 c x prev i s=s:=by
 unfold St.j7;rw [St.Me _ _ _ h,St.Gf _ _ _ h,St.fQ _ _ _ _ h,if_pos h]
theorem St.Ba (c:aq) (s:St) (i n:Nat) (hi:i≤n) (h:(St.gP c s i).err≠0):St.gP c s n=St.gP c s i:=by
 induction n with
 |zero=>rw [Nat.le_zero.1 hi]
 |succ n ih=>
  by_cases q:i=n+1
  ·rw [q]
  ·have h1:=ih (by omega)
   unfold St.gP at*;rw [List.range_succ,List.foldl_append,List.foldl_cons,List.foldl_nil,h1];split
   ·rw [St.yP _ _ _ _ _ h]
   ·rfl
theorem St.DD (s:St) (n:Int) (l:List bH) (i:Nat) (h:i<l.length):s.wT n 3 ((l.take (i+1)).map bH.unit)=(s.wT n 3 ((l.take i).map bH.unit)).need (decide (0≤l[i].unit)&&decide (l[i].unit<n)) 3 12:=by
 rw [List.take_succ_eq_append_getElem h,List.map_append];exact St.yO _ _ _ _ _
theorem mH {w w':World} {base:Nat} {e:TypeId} {s:Nat} {v:Value} {n:Nat} {xs:List Value} {K:Nat} (h:w.ownsRow base e s v n xs) (hX:ak K w w') (hK:K<base):w'.ownsRow base e s v n xs:=by
 obtain ⟨h1,h2⟩:=h;refine ⟨h1,?_⟩;rcases h2 with h2|⟨g,cap,cur,hv,hb,hg,hr⟩
 ·exact .inl h2
 ·refine .inr ⟨g,cap,cur,hv,hb,?_,hr⟩
  rw [hX.block g (Array.getElem?_eq_some_iff.1 hg).1 (by omega)];exact hg
theorem aH.but {w w':World} {B:Nat} {e:TypeId} {m:Nat} {v:Value} {rows:List (List Value)} {K:Nat} (h:aH w B e m v rows) (x:ak K w w') (hK:K<B):aH w' B e m v rows:=⟨mH h.own x hK,h.len⟩
theorem aG.keep {w w':World} {b:Nat} {T:TypeId} {vs:List Value} (h:aG w b T vs) (e:w'.heap[b]?=w.heap[b]?):aG w' b T vs:=by
 unfold aG;rw [e];exact h
theorem ak.append {K:Nat} {V w w':World} {base:Nat} {v:Value} (h:ak K V w) (hV:V.heap.size≤base) (hown: ∀k,v.ownBlock=some k→base≤k) (he: ∀a0,Ext a0 w→a0.heap.size≤base→Ext a0 w') (hb: ∀k,k<w.heap.size→some k≠v.ownBlock→w'.heap[k]?=w.heap[k]?) (hz:w.heap.size≤w'.heap.size):ak K V w':=by
 have h0:Ext {w with heap:= #[]} w:=⟨⟨rfl,rfl,rfl,Nat.zero_le _,fun k hk=>absurd hk (Nat.not_lt_zero _)⟩,Nat.le_refl _⟩;have h1:=he _ h0 (Nat.zero_le _);refine ⟨h1.below.os.trans h.os,h1.below.tape.trans h.tape,h1.below.output.trans h.output,Nat.le_trans h.drawn h1.drawn,Nat.le_trans h.size hz,fun k hk hkK=> ?_⟩;have hs:=h.size;rw [hb k (by omega) (fun e=>by have:=hown k e.symm;omega)];exact h.block k hk hkK
set_option maxHeartbeats 2000000 in
set_option maxRecDepth 100000 in
theorem Jn (w0 V:World) (K:Nat) (c:aq) (s:St) (x:bI) (hK:w0.heap.size≤K) (hV:Ext w0 V) (jV:c.aj.length≤9223372036854775807) (hm:bP w0 3 x.ma x.mc (x.moves.map bH.cells)) (T_: ∀m∈x.moves,fp [m.unit,m.up,m.down]) (h:cY V K c s):
 Calls Tryz.prog 147 #[.pointer (some ⟨K,0,none⟩),.agg #[.string x.name,.slice x.la x.lines.length x.lc,.bool x.bJ,.slice x.ma x.moves.length x.mc]] V fun e' w'=>km V K c (s.moves c x) e' w':=by
 have vB:=h.lt;have hle:=hm.le;have di:=hm.cap
 rw [List.length_map]at hle;have HV:=ae hV;have HM:=ae hm;have TY:=ae T_;have bB:=ae hK;have rP:=ae jV;have HH:=ae h
 obtain ⟨s1,hs1⟩: ∃s1,s.need (decide (x.moves.length=0)||x.bJ) 3 16=s1:=⟨_,rfl⟩;obtain ⟨s2,hs2⟩: ∃s2,s1.need (decide ((x.moves.length:Int)≤16)) 3 8=s2:=⟨_,rfl⟩;unfold St.moves;rw [hs1,hs2];obtain ⟨sf,LM⟩: ∃sf,(if s2.err≠0 then s2 else((s2.wT c.aj.length 3 (x.moves.map bH.unit)).need (gG (x.moves.map bH.unit)) 3 11).Jm x.moves)=sf:=⟨_,rfl⟩;rw [LM];have FR:=ae LM;have oX:=ae hs1;have nX:=ae hs2
 have Ua:Hid (s2.err=0→x.moves.length≤16):=fun h0=>by
  rw [←hs2]at h0;have:=(St.wL (by decide) h0).2;rw [decide_eq_true_eq]at this;omega
 clear hs1 hs2 LM h hm T_ hV hK jV;go_enter Tryz.func147,Tryz.ntmps147
 go_upto_region 1 with fail
 obtain ⟨W,hW,x0,Z0,A0⟩:=aB V 87 x.cells;rw [show V.alloc (.cells #[.string x.name,.slice x.la x.lines.length x.lc,.bool x.bJ,.slice x.ma x.moves.length x.mc] 87)=W from hW.symm];clear hW;obtain ⟨B,hB⟩: ∃B,B=V.heap.size:=⟨_,rfl⟩;rw [←hB]at A0⊢;have bL:B≠K:=by omega
 have ju:=ae A0;have lW:=ae x0;have kr:=ae hB
 clear hB Z0 A0 x0;go_upto_region 1 with fail
 go_cut [] (fun wx=>cY wx K c s1∧ak K W wx∧aG wx B 87 x.cells)
 case first=>
  as_aux_lemma=>
   obtain ⟨b0,b1,b2,b3⟩:=bI.at ju.out
   have HN:Hid (∀ok,ok=(decide (x.moves.length=0)||x.bJ)→Calls Tryz.prog 134 #[.pointer (some ⟨K,0,none⟩),.bool ok,i64 3,i64 16] W fun e' w'=>km W K c s1 e' w'):=fun ok eR=>by
    have h5:=bN W K c s ok 3 16 (HH.out.ext lW.out);rw [eR,oX.out]at h5;rw [eR];exact h5
   by_cases q:x.moves.length=0
   ·have t:((x.moves.length:Int)==0)=true:=by rw [q];rfl
    have HQ:Hid (true=(decide (x.moves.length=0)||x.bJ)):=by show _=_;rw [q];simp
    clear q;go_wp2_with fail
    refine (HN.out true HQ.out).mono ?_;rintro e w2 ⟨rfl,hk,hx⟩;have HR:=ae (And.intro hk (And.intro hx (ju.out.but hx bL)));clear hk hx b0 b1 b2 b3 t;go_wp2_with fail
    go_meet
    exact HR.out
   ·have t:((x.moves.length:Int)==0)=false:=by rw [beq_eq_false_iff_ne];omega
    have HQ:Hid (x.bJ=(decide (x.moves.length=0)||x.bJ)):=by
     show _=_;have:decide (x.moves.length=0)=false:=decide_eq_false q;rw [this,Bool.false_or]
    clear q;go_wp2_with fail
    refine (HN.out x.bJ HQ.out).mono ?_;rintro e w2 ⟨rfl,hk,hx⟩;have HR:=ae (And.intro hk (And.intro hx (ju.out.but hx bL)));clear hk hx b0 b1 b2 b3 t;go_wp2_with fail
    go_meet
    exact HR.out
 case rest=>
  obtain ⟨hk,hx,hA⟩:=hcut;generalize wc=W1 at*;have bt:=ae hA;have eK:Hid (ak K V W1):=(lW.out.but K).trans hx
  have h5:=bN W1 K c s1 (decide ((x.moves.length:Int)≤16)) 3 8 hk;rw [nX.out]at h5;have Cq:=ae h5;obtain ⟨b0,b1,b2,b3⟩:=bI.at bt.out;clear hk hx hA h5 ju lW;go_wp2_with fail
  refine Cq.out.mono ?_;rintro e W2 ⟨rfl,hK2,hx2⟩;clear b0 b1 b2 b3;have nY:=ae (bt.out.but hx2 bL);have dC:=ae (eK.out.trans hx2);have pS:=ae hK2;obtain ⟨-,-,-,Pc,-⟩:=mq hK2;clear hx2 hK2 bt eK Cq;by_cases h0:s2.err=0
  rotate_left
  ·have t1:(s2.err !=0)=true:=by simpa using h0
   have hf:=FR.out;rw [if_pos h0]at hf;have HR:Hid (cY W2 K c sf):=by show cY _ _ _ _;rw [←hf];exact pS.out
   clear h0 hf;go_wp2_with fail
   exact bodyPost_ret (v:= .tuple #[]) (by simp [results,Tryz.results147,go_sem]) rfl ⟨rfl,HR.out,dC.out⟩
  have t1:(s2.err !=0)=false:=by simpa using h0
  have h16:=Ua.out h0;have hf:=FR.out;rw [if_neg (fun e=>e h0)]at hf;have FR:=ae hf;clear h0 hf;obtain ⟨b0,b1,b2,b3⟩:=bI.at nY.out;have hBl:B<W2.heap.size:=nY.out.lt;have Gg:K<W2.heap.size:=pS.out.lt;obtain ⟨D,hD⟩: ∃D,D=W2.heap.size:=⟨_,rfl⟩;rw [←hD]at hBl Gg;have HD:=ae hD;have N_:Hid (V.heap.size≤D):=by show _≤_;rw [hD];exact dC.out.size
  clear hD;go_wp2_with fail
  clear b0 b1 b2 b3 t1 Pc;go_loopw [4,33] (fun v ii wr=> ∃i:Nat,i≤x.moves.length∧cY wr K c (s2.wT c.aj.length 3 ((x.moves.take i).map bH.unit))∧ak K V wr∧aG wr B 87 x.cells∧aH wr D 3 1 v ((x.moves.take i).map fun m=> [i64 m.unit])∧D≤wr.heap.size∧ii= .int .i64 i) (fun _ ii _=>x.moves.length-(intOf ii).toNat)
  case atStart=>exact ⟨0,Nat.zero_le _,pS.out,dC.out,nY.out,aH.nil _ _ _ _,by rw [HD.out];exact Nat.le_refl _,rfl⟩
  case round=>
   obtain ⟨i,hi,hk,hx,hA,hown,hD,rfl⟩:=hrel;clear pS dC nY;by_cases hlt:i<x.moves.length
   ·have hE:=hx.ext HV.out bB.out
    obtain ⟨b,o,ha,c0,c1,c2⟩:=(HM.out.ext hE).moves i hlt;have HT:=ae (St.DD s2 (c.aj.length:Int) x.moves i hlt);have Oa:Hid ((x.moves.take (i+1)).map (fun m=> [i64 m.unit])=(x.moves.take i).map (fun m=> [i64 m.unit])++ [[i64 x.moves[i].unit]]):=by show _=_;rw [List.take_succ_eq_append_getElem hlt,List.map_append];rfl
    have Pr:((x.moves.take i).map (fun m=> [i64 m.unit])).length=i:=by simp;omega
    have Ga:=ae Pr;generalize s2.wT (c.aj.length:Int) 3 ((x.moves.take i).map bH.unit)=s3 at*;generalize (x.moves.take i).map (fun m=> [i64 m.unit])=R at*;obtain ⟨m,IC⟩: ∃m,m=x.moves[i]:=⟨_,rfl⟩;rw [←IC]at c0 c1 c2 HT Oa
    have HOW:Hid (wr.ownsRow D 3 1 u4 i R.flatten):=by
     have h5:=hown.own;rw [Pr]at h5;exact h5
    have HO:=ae hown;have Cr:=ae hk;have jY:=ae hx;have yy:=ae hA;have NU:=ae hD
    have fM:(0:Int)≤(i:Int):=by omega
    have fH:(i:Int)<(x.moves.length:Int):=by omega
    clear hown hk hx hA hE hD IC Pr;rw [ha];go_upto_region 8 with fail
    obtain ⟨W3,hW3,x3,Z3,A3⟩:=aB wr 140 m.cells;rw [show wr.alloc (.cells #[i64 m.unit,i64 m.up,i64 m.down] 140)=W3 from hW3.symm];obtain ⟨E,j5⟩: ∃E,E=wr.heap.size:=⟨_,rfl⟩;rw [←j5]at A3⊢;have dR:E≠K:=by have:=Cr.out.lt;omega
    have e0:W3.cell? ⟨E,0,none⟩=some (i64 m.unit):=(A3.cell 0).trans rfl;have EK:=ae A3;have uJ:=ae x3
    have Mf:=ae (Cr.out.ext x3);obtain ⟨-,-,-,-,k4,-⟩:=cF Mf.out;have jV:=rP.out;clear hW3 j5 Z3 A3 x3 c0 c1 c2;rcases Bool.eq_false_or_eq_true (decide (0≤m.unit))with hp|hp
    ·refine ay (fun w'=>w'.cell? ⟨E,0,none⟩=some (i64 m.unit)∧w'.cell? ⟨K,4,none⟩=some (.slice c.ua c.aj.length c.uc)) (fun w'=>True) (fun i=>false) (by kernel_rfl) (⟨e0,k4⟩) (trivial) (fun ar ah=> ?_)
     refine av 0 (.pointer (some ⟨K,0,none⟩)) rfl ar ah ?_;simp only [sS];refine av 1 (.pointer (some ⟨E,0,none⟩)) rfl ar ah ?_;simp only [sS];refine av 2 (i64 m.unit) rfl ar ah ?_;simp only [sS];refine av 3 (.bool true) rfl ar ah ?_;simp only [sS];refine av 4 (.bool true) rfl ar ah ?_;simp only [sS];refine av 5 (.pointer (some ⟨E,0,none⟩)) rfl ar ah ?_;simp only [sS];refine av 6 (i64 m.unit) rfl ar ah ?_;simp only [sS];refine av 7 (.pointer (some ⟨K,0,none⟩)) rfl ar ah ?_;simp only [sS];refine av 8 (.pointer (some ⟨K,0,none⟩)) rfl ar ah ?_;simp only [sS];refine av 9 (.pointer (some ⟨K,0,none⟩)) rfl ar ah ?_;simp only [sS];refine av 10 (.pointer (some ⟨K,4,none⟩)) rfl ar ah ?_;simp only [sS];refine av 11 (.slice c.ua c.aj.length c.uc) rfl ar ah ?_;simp only [sS];refine av 12 (.int .i64 (c.aj.length:Int)) rfl ar ah ?_;simp only [sS];refine av 13 (.bool (decide (m.unit<(c.aj.length:Int)))) rfl ar ah ?_;simp only [sS];refine av 14 (.bool (decide (m.unit<(c.aj.length:Int)))) rfl ar ah ?_;simp only [sS];refine cG 15 rfl (fun Kc hK=> ?_);go_simp;refine (bN W3.drew K c s3 (decide (m.unit<(c.aj.length:Int))) 3 12 (Mf.out.ext (Ext.refl _).drew)).mono ?_;rintro e W4 ⟨rfl,hK4,fN⟩;refine hK.out _ _ (⟨aR (ai (Ext.refl W3).drew e0) fN dR,(cF hK4).2.2.2.2.1⟩) (trivial) (fun ar ah=> ?_);clear hK Kc;try simp only [sS]
     refine ax (by kernel_rfl) ?_ _;clear ar ah;have jX:cY W4 K c (s3.need (decide (0≤m.unit)&&decide (m.unit<(c.aj.length:Int))) 3 12):=by rw [hp];simpa using hK4
     clear hK4;have EO:=ae jX;have dA:ak K W3 W4:=((Ext.refl W3).drew.but K).trans fN;have su:=ae dA;have Ob:W4.cell? ⟨E,0,none⟩=some (i64 m.unit):=aR e0 dA dR;have Gh:Hid (W4.ownsRow D 3 1 u4 i R.flatten):=mH (bG HOW.out uJ.out) dA Gg;have Ub:Hid (aH W4 D 3 1 u4 R):=(HO.out.ext uJ.out).but dA Gg;have Uc:D≤W4.heap.size:=Nat.le_trans NU.out (Nat.le_trans uJ.out.size dA.size);have Mg:=ae Uc;clear fN dA jX hp jV e0 k4;go_wp2_with (at_builtin;refine aV _ rfl (.tmp 53) (.tmp 56) 22 rfl D 3 (.int .i64 0) 1 8 Tryz.underlying22 Tryz.info_int rfl (by decide) u4 i R.flatten rfl ?c1 (some ⟨W4.heap.size,0,none⟩) 1 1 [i64 m.unit] rfl rfl ?c2 ?c3 ?c4 ?c5 (by decide) ?c6 ?_;rotate_right;intro v1 w5 ho he hb hz hv)
     case c1=>exact bG Gh.out ((Ext.refl _).alloc _)
     case c2=>exact fun _=>⟨_,rfl,cC W4 3 [i64 m.unit]⟩
     case c3=>intro u hu;rw [List.mem_singleton]at hu;subst hu;rfl
     case c4=>intro e;cases e
     case c5=>omega
     case c6=>have:=Mg.out;simp;omega
     have lx:=Gh.out.lt;have nj:(W4.alloc (.cells #[i64 m.unit] 3)).heap.size=W4.heap.size+1:=by simp
     have xK:cY w5 K c (s3.need (decide (0≤m.unit)&&decide (m.unit<(c.aj.length:Int))) 3 12):=aG.keep (EO.out.ext ((Ext.refl W4).alloc _)) (hb.out K (by have:=EO.out.lt;omega) (fun e=>by have:=(lx K e.symm).1;omega));have xB:aG w5 B 87 x.cells:=aG.keep ((yy.out.ext uJ.out).but su.out bL|>.ext ((Ext.refl W4).alloc _)) (hb.out B (by have:=Mg.out;omega) (fun e=>by have:=(lx B e.symm).1;omega));have xX:ak K V w5:=ak.append ((jY.out.trans ((uJ.out.but K).trans su.out)).alloc' _) N_.out (fun k e=>(lx k e).1) he.out hb.out hz.out;have iC:=Ub.out.snoc (w':=w5) (v':=v1) (r:= [i64 m.unit]) rfl (by rw [Ga.out];exact ho.out);have Ps:D≤w5.heap.size:=by have:=hz.out;have:=Mg.out;omega
     have HR:=ae (And.intro xK (And.intro xX (And.intro xB (And.intro iC Ps))));clear xK xB xX iC Ps nj lx ho he hb hz hv Ob;exact ⟨⟨i+1,by omega,by rw [HT.out];exact HR.out.1,HR.out.2.1,HR.out.2.2.1,by rw [Oa.out];exact HR.out.2.2.2.1,HR.out.2.2.2.2,by go_num⟩,by simp only [intOf];omega⟩
    ·refine ay (fun w'=>w'.cell? ⟨E,0,none⟩=some (i64 m.unit)∧w'.cell? ⟨K,4,none⟩=some (.slice c.ua c.aj.length c.uc)) (fun w'=>True) (fun i=>false) (by kernel_rfl) (⟨e0,k4⟩) (trivial) (fun ar ah=> ?_)
     refine av 0 (.pointer (some ⟨K,0,none⟩)) rfl ar ah ?_;simp only [sS];refine av 1 (.pointer (some ⟨E,0,none⟩)) rfl ar ah ?_;simp only [sS];refine av 2 (i64 m.unit) rfl ar ah ?_;simp only [sS];refine av 3 (.bool false) rfl ar ah ?_;simp only [sS];refine av 4 (.bool false) rfl ar ah ?_;simp only [sS];refine cA 5 rfl ar ah ?_;simp only [sS];refine cA 6 rfl ar ah ?_;simp only [sS];refine cA 7 rfl ar ah ?_;simp only [sS];refine cA 8 rfl ar ah ?_;simp only [sS];refine cA 9 rfl ar ah ?_;simp only [sS];refine cA 10 rfl ar ah ?_;simp only [sS];refine cA 11 rfl ar ah ?_;simp only [sS];refine cA 12 rfl ar ah ?_;simp only [sS];refine cA 13 rfl ar ah ?_;simp only [sS];refine av 14 (.bool false) rfl ar ah ?_;simp only [sS];refine cG 15 rfl (fun Kc hK=> ?_);go_simp;refine (bN W3.drew K c s3 (false) 3 12 (Mf.out.ext (Ext.refl _).drew)).mono ?_;rintro e W4 ⟨rfl,hK4,fN⟩;refine hK.out _ _ (⟨aR (ai (Ext.refl W3).drew e0) fN dR,(cF hK4).2.2.2.2.1⟩) (trivial) (fun ar ah=> ?_);clear hK Kc;try simp only [sS]
     refine ax (by kernel_rfl) ?_ _;clear ar ah;have jX:cY W4 K c (s3.need (decide (0≤m.unit)&&decide (m.unit<(c.aj.length:Int))) 3 12):=by rw [hp];simpa using hK4
     clear hK4;have EO:=ae jX;have dA:ak K W3 W4:=((Ext.refl W3).drew.but K).trans fN;have su:=ae dA;have Ob:W4.cell? ⟨E,0,none⟩=some (i64 m.unit):=aR e0 dA dR;have Gh:Hid (W4.ownsRow D 3 1 u4 i R.flatten):=mH (bG HOW.out uJ.out) dA Gg;have Ub:Hid (aH W4 D 3 1 u4 R):=(HO.out.ext uJ.out).but dA Gg;have Uc:D≤W4.heap.size:=Nat.le_trans NU.out (Nat.le_trans uJ.out.size dA.size);have Mg:=ae Uc;clear fN dA jX hp jV e0 k4;go_wp2_with (at_builtin;refine aV _ rfl (.tmp 53) (.tmp 56) 22 rfl D 3 (.int .i64 0) 1 8 Tryz.underlying22 Tryz.info_int rfl (by decide) u4 i R.flatten rfl ?c1 (some ⟨W4.heap.size,0,none⟩) 1 1 [i64 m.unit] rfl rfl ?c2 ?c3 ?c4 ?c5 (by decide) ?c6 ?_;rotate_right;intro v1 w5 ho he hb hz hv)
     case c1=>exact bG Gh.out ((Ext.refl _).alloc _)
     case c2=>exact fun _=>⟨_,rfl,cC W4 3 [i64 m.unit]⟩
     case c3=>intro u hu;rw [List.mem_singleton]at hu;subst hu;rfl
     case c4=>intro e;cases e
     case c5=>omega
     case c6=>have:=Mg.out;simp;omega
     have lx:=Gh.out.lt;have nj:(W4.alloc (.cells #[i64 m.unit] 3)).heap.size=W4.heap.size+1:=by simp
     have xK:cY w5 K c (s3.need (decide (0≤m.unit)&&decide (m.unit<(c.aj.length:Int))) 3 12):=aG.keep (EO.out.ext ((Ext.refl W4).alloc _)) (hb.out K (by have:=EO.out.lt;omega) (fun e=>by have:=(lx K e.symm).1;omega));have xB:aG w5 B 87 x.cells:=aG.keep ((yy.out.ext uJ.out).but su.out bL|>.ext ((Ext.refl W4).alloc _)) (hb.out B (by have:=Mg.out;omega) (fun e=>by have:=(lx B e.symm).1;omega));have xX:ak K V w5:=ak.append ((jY.out.trans ((uJ.out.but K).trans su.out)).alloc' _) N_.out (fun k e=>(lx k e).1) he.out hb.out hz.out;have iC:=Ub.out.snoc (w':=w5) (v':=v1) (r:= [i64 m.unit]) rfl (by rw [Ga.out];exact ho.out);have Ps:D≤w5.heap.size:=by have:=hz.out;have:=Mg.out;omega
     have HR:=ae (And.intro xK (And.intro xX (And.intro xB (And.intro iC Ps))));clear xK xB xX iC Ps nj lx ho he hb hz hv Ob;exact ⟨⟨i+1,by omega,by rw [HT.out];exact HR.out.1,HR.out.2.1,HR.out.2.2.1,by rw [Oa.out];exact HR.out.2.2.2.1,HR.out.2.2.2.2,by go_num⟩,by simp only [intOf];omega⟩
   ·obtain rfl:i=x.moves.length:=by omega
    rw [List.take_length]at hk hown;obtain ⟨ra,rc,rfl,hS,-⟩:=hown.recs (by decide);have XB:(x.moves.map fun m=> [i64 m.unit])=(x.moves.map bH.unit).map fun z=> [i64 z]:=by rw [List.map_map];rfl
    have rO:(x.moves.map fun m=> [i64 m.unit]).length=(x.moves.map bH.unit).length:=by simp
    rw [XB]at hS;rw [rO]
    have hI:aA wr ra rc (x.moves.map bH.unit):=aA.kn hS (fun z hz=>by
     obtain ⟨m,hm,rfl⟩:=List.mem_map.1 hz;exact TY.out m hm m.unit (by simp))
    have Pt:=ae (lh wr ra rc (x.moves.map bH.unit) hI);obtain ⟨s3,hs3⟩: ∃s3,s3=s2.wT (c.aj.length:Int) 3 (x.moves.map bH.unit):=⟨_,rfl⟩;rw [←hs3]at hk;have hf:=FR.out;rw [←hs3]at hf;have FR:=ae hf;have Cr:=ae hk;have jY:=ae hx;have yy:=ae hA
    clear hown hS hI hk hx hA hs3 hf XB rO hD;generalize gG (x.moves.map bH.unit)=ab at*;generalize (x.moves.map bH.unit).length=ul at*;go_wp2_with fail
    refine Pt.out.mono ?_;rintro e W4 ⟨rfl,x4⟩;have h6:=bN W4 K c s3 ab 3 11 (Cr.out.ext x4);obtain ⟨s4,nj⟩: ∃s4,s4=s3.need ab 3 11:=⟨_,rfl⟩;rw [←nj]at h6;have hf:=FR.out;rw [←nj]at hf;have FR:=ae hf;have XC:=ae h6;have vI:=ae (yy.out.ext x4);have nK:=ae (jY.out.trans (x4.but K))
    clear h6 nj hf x4 Pt yy jY Cr;go_wp2_with fail
    refine XC.out.mono ?_;rintro e W5 ⟨rfl,XD,dA⟩;have EO:=ae XD;have su:=ae (nK.out.trans dA);have KZ:=ae (vI.out.but dA bL)
    obtain ⟨-,-,-,b3⟩:=bI.at KZ.out;clear XD dA XC vI nK;go_wp2_with fail
    clear b3;go_loopw [66] (fun ii wl=> ∃i:Nat,i≤x.moves.length∧cY wl K c (s4.Jm (x.moves.take i))∧ak K V wl∧ii= .int .i64 i) (fun ii _=>x.moves.length-(intOf ii).toNat)
    case atStart=>exact ⟨0,Nat.zero_le _,EO.out,su.out,rfl⟩
    case round=>
     obtain ⟨i,hi,hk,hx,rfl⟩:=hrel;clear EO su KZ;by_cases hlt:i<x.moves.length
     ·have hE:=hx.ext HV.out bB.out
      obtain ⟨b,o,ha,c0,c1,c2⟩:=(HM.out.ext hE).moves i hlt;have HT:=ae (St.Ge s4 x.moves i hlt);generalize s4.Jm (x.moves.take i)=s5 at*;obtain ⟨m,IC⟩: ∃m,m=x.moves[i]:=⟨_,rfl⟩;rw [←IC]at c0 c1 c2 HT;have Ud:=ae hk;have AV:=ae hx
      have fM:(0:Int)≤(i:Int):=by omega
      have fH:(i:Int)<(x.moves.length:Int):=by omega
      clear hk hx hE IC;rw [ha];go_upto_region 15 with fail
      obtain ⟨W6,K0,x6,Z6,A6⟩:=aB wr 140 m.cells;rw [show wr.alloc (.cells #[i64 m.unit,i64 m.up,i64 m.down] 140)=W6 from K0.symm];obtain ⟨E,j5⟩: ∃E,E=wr.heap.size:=⟨_,rfl⟩;rw [←j5]at A6⊢;have dR:E≠K:=by have:=Ud.out.lt;omega
      have EK:=ae A6;have ID:=ae (AV.out.trans (x6.but K));have gQ:=ae (Ud.out.ext x6);clear K0 j5 Z6 A6 x6 c0 c1 c2 AV Ud;obtain ⟨-,e1,e2⟩:=bH.at EK.out;go_wp2_with fail
      refine (bM W6 K c s5 3 m.up 0 1048576 gQ.out).mono ?_;rintro e W7 ⟨rfl,XE,j6⟩;clear e1 e2;obtain ⟨-,e1,e2⟩:=bH.at (EK.out.but j6 dR);go_wp2_with fail
      refine (bM W7 K c _ 3 m.down 0 1048576 XE).mono ?_;rintro e W8 ⟨rfl,XF,fF⟩;have HR:=ae (And.intro XF ((ID.out.trans j6).trans fF));clear XE j6 XF fF e1 e2;go_wp2_with fail
      exact ⟨⟨i+1,by omega,by rw [HT.out];exact HR.out.1,HR.out.2,by go_num⟩,by simp only [intOf];omega⟩
     ·obtain rfl:i=x.moves.length:=by omega
      rw [List.take_length,FR.out]at hk;have HR:=ae (And.intro hk hx);clear hk hx;go_wp2_with fail
      exact bodyPost_end (v:= .tuple #[]) (by simp [results,Tryz.results147,go_sem]) rfl ⟨rfl,HR.out.1,HR.out.2⟩
def dp (l:List Int):List (List Value):=l.map fun z=> [i64 z]
theorem o8 (l:List Int) (z:Int):dp (l++ [z])=dp l++ [[i64 z]]:=by simp [dp]
theorem dh (l:List Int):(dp l).length=l.length:=by simp [dp]
theorem bP.but {w w':World} {m:Nat} {a:Option Addr} {c K:Nat} {rows:List (List Value)} (h:bP w m a c rows) (x:ak K w w') (hb: ∀p,a=some p→p.block≠K):bP w' m a c rows:=
 ⟨h.le,h.cap,fun i hi=>by
   obtain ⟨b,o,ha,hc⟩:=h.cell i hi;exact ⟨b,o,ha,fun j hj=>aR (hc j hj) x (show b≠K from hb _ ha)⟩⟩
theorem aA.nil (w:World):aA w none 0 []:=⟨Nat.le_refl _,by decide,fun i hi=>absurd hi (Nat.not_lt_zero _),fun i hi=>absurd hi (Nat.not_lt_zero _)⟩
def cM (F:Nat→Int→Int) (e:Int) (n:Nat):Int:=(List.range n).foldl (fun e i=>F i e) e
theorem dE (F:Nat→Int→Int) (e:Int) (n:Nat):cM F e (n+1)=F n (cM F e n):=by
 unfold cM;rw [List.range_succ,List.foldl_append];rfl
theorem gj {F:Nat→Int→Int} (hF: ∀i e,e≠0→F i e=e) {e:Int} (h:e≠0): ∀n,cM F e n=e
 |0=>rfl
 |n+1=>by rw [dE,gj hF h n,hF n e h]
theorem fU {F:Nat→Int→Int} (hF: ∀i e,e≠0→F i e=e) {e:Int} {i n:Nat} (hi:i≤n) (h:cM F e i≠0):cM F e i=cM F e n:=by
 induction n with
 |zero=>rw [Nat.le_zero.1 hi]
 |succ n ih=>
  by_cases q:i=n+1
  ·rw [q]
  ·rw [dE,←ih (by omega),hF n _ h]
theorem fu {F:Nat→Int→Int} (hF: ∀i e,e≠0→F i e=e) {e:Int} {n:Nat} (h:cM F e n=0):e=0∧ ∀i,i<n→cM F e i=0∧F i 0=0:=by
 have key: ∀i,i≤n→cM F e i=0:=fun i hi=>by
  apply Classical.byContradiction;intro hne;rw [←fU hF hi hne]at h;exact hne h
 refine ⟨by have:=key 0 (Nat.zero_le _);simpa [cM]using this,fun i hi=>⟨key i (by omega),?_⟩⟩;have h1:=key (i+1) hi;rw [dE,key i (by omega)]at h1;exact h1
def bW {α:Type} (l:List α) (F:α→Nat→Int→Int) (i:Nat) (e:Int):Int:=match l[i]? with|some x=>F x i e|none=>e
theorem gJ {α:Type} {l:List α} {F:α→Nat→Int→Int} {i:Nat} (h:i<l.length) (e:Int):bW l F i e=F l[i] i e:=by unfold bW;rw [List.getElem?_eq_getElem h]
theorem cO {α:Type} {l:List α} {F:α→Nat→Int→Int} (hF: ∀x i e,e≠0→F x i e=e) (i:Nat) (e:Int) (h:e≠0):bW l F i e=e:=by
 unfold bW;split
 ·exact hF _ _ _ h
 ·rfl
def nZ (c:aq) (x:cN) (prev:List ByteArray) (e:Int):Int:=nd (eo (eG e x.name prev) c x.bU 0 1048576) (aY 0 1048576 [x.gF]) 3
theorem jx {e:Int} (h:e≠0) (nm:ByteArray) (prev:List ByteArray):eG e nm prev=e:=by unfold eG;simp only [dX h]
theorem o9 {e:Int} (h:e≠0) (c:aq) (i:Int):kD e c i=e:=dX h _ _
theorem qY {e:Int} (h:e≠0) (c:aq) (l:List Int) (a b:Int):eo e c l a b=e:=by unfold eo;simp only [dX h]
theorem qj {e:Int} (h:e≠0) (c:aq) (l:List Int):j2 e c l=e:=by unfold j2;simp only [dX h]
theorem DF {e:Int} (h:e≠0) (x:aF):jI e x=e:=by unfold jI;simp only [dX h]
def ql (c:aq):cN→Nat→Int→Int:=fun x i e=>nZ c x ((c.au.take i).map cN.name) e
def lS (c:aq):aS→Nat→Int→Int:=fun x i e=>oW c x ((c.lines.take i).map aS.name) e
def lT (c:aq):aF→Nat→Int→Int:=fun x i e=>lQ c x ((c.aj.take i).map aF.name) e
def jh (c:aq):bp→Nat→Int→Int:=fun x i e=>ll c x ((c.stores.take i).map bp.name) e
def rQ (c:aq):dW→Nat→Int→Int:=fun x i e=>wE c x ((c.aN.take i).map dW.name) e
def uK (c:aq):bI→Nat→Int→Int:=fun x i e=>nk c x ((c.outs.take i).map bI.name) e
theorem o_ (c:aq) (x:cN) (i:Nat) (e:Int) (h:e≠0):ql c x i e=e:=by unfold ql nZ;simp only [jx h,qY h,dX h]
theorem qm (c:aq) (x:aS) (i:Nat) (e:Int) (h:e≠0):lS c x i e=e:=by unfold lS oW;simp only [jx h,o9 h,qj h,dX h]
theorem nt (c:aq) (x:aF) (i:Nat) (e:Int) (h:e≠0):lT c x i e=e:=by unfold lT lQ;simp only [jx h,o9 h,qj h,DF h,dX h]
theorem ly (c:aq) (x:bp) (i:Nat) (e:Int) (h:e≠0):jh c x i e=e:=by unfold jh ll;simp only [jx h,o9 h,dX h]
theorem pd (c:aq) (x:dW) (i:Nat) (e:Int) (h:e≠0):rQ c x i e=e:=by unfold rQ wE;simp only [jx h,o9 h,qY h,dX h]
theorem pg (c:aq) (x:bI) (i:Nat) (e:Int) (h:e≠0):uK c x i e=e:=by unfold uK nk;simp only [jx h,dX h]
def mI (c:aq) (e:Int):Int:=cM (bW c.au (ql c)) e c.au.length
def ko (c:aq) (e:Int):Int:=cM (bW c.lines (lS c)) e c.lines.length
def mJ (c:aq) (e:Int):Int:=cM (bW c.aj (lT c)) e c.aj.length
def j8 (c:aq) (e:Int):Int:=cM (bW c.stores (jh c)) e c.stores.length
def qZ (c:aq) (e:Int):Int:=cM (bW c.aN (rQ c)) e c.aN.length
def q9 (c:aq) (e:Int):Int:=cM (bW c.outs (uK c)) e c.outs.length
def iR (c:aq) (h:Int):List (Nat×Nat):=(cJ c h c.lines.length).map fun i=>((jJ c i).1.toNat,(jJ c i).2.toNat)
def eI (l:List Nat) (out:List Int):Nat→List Nat
 |0=> []
 |n+1=>if hasB out ((l.getD n 0:Nat):Int)=true then eI l out n++ [n]else eI l out n
theorem qo (l:List Nat) (out:List Int): ∀n,∀k∈eI l out n,k<n
 |0,k,h=>by simp [eI]at h
 |n+1,k,h=>by
  unfold eI at h;split at h
  ·rcases List.mem_append.1 h with h|h
   ·have:=qo l out n k h;omega
   ·rw [List.mem_singleton]at h;omega
  ·have:=qo l out n k h;omega
theorem n4 (l:List Nat) (out:List Int): ∀n,(eI l out n).length≤n
 |0=>Nat.le_refl _
 |n+1=>by
  have:=n4 l out n;unfold eI;split
  ·rw [List.length_append];simp;exact this
  ·omega
noncomputable def ji (c:aq) (h:Int) (x:bI):Bool:=F_ c.au.length (iR c h) (aC (eI (cJ c h c.lines.length) x.lines (cJ c h c.lines.length).length))
noncomputable def kI (c:aq) (h:Nat) (e:Int):Int:=cM (bW c.outs fun x _ e=>nd e (!ji c h x) 13) e c.outs.length
theorem nw (c:aq) (h:Nat) (e:Int) (he:e≠0):kI c h e=e:=gj (fun i e h=>cO (fun _ _ _ h=>dX h _ _) i e h) he _
noncomputable def tA (c:aq) (e:Int):Int:=cM (kI c) e c.hours.toNat
noncomputable def bT (c:aq):Int:=tA c (q9 c (qZ c (j8 c (mJ c (ko c (mI c (gz c 0)))))))
theorem tB {e:Int} {c:aq} {l:List Int} (h:j2 e c l=0):e=0:=by
 unfold j2 at h;exact (bm (by decide) (bm (by decide) h).1).1
theorem gl {e:Int} {c:aq} {l:List Int} {a b:Int} (h:eo e c l a b=0):e=0∧(l.length:Int)=c.hours∧aY a b l=true:=by
 unfold eo at h;have h1:=bm (by decide) h;have h2:=bm (by decide) h1.1;exact ⟨h2.1,by simpa using h2.2,h1.2⟩
theorem b_ {lo hi x:Int}:aY lo hi [x]=true↔lo≤x∧x≤hi:=by unfold aY;simp
theorem rf {c:aq} {e:Int}: ∀n,iI c e n=0→e=0
 |0,h=>by simpa [iI]using h
 |n+1,h=>by rw [ep]at h;exact rf n (bm (by decide) h).1
theorem yQ {c:aq} {e:Int} (h:gz c e=0):1≤c.hours∧c.hours≤24:=by
 unfold gz at h;have h1:=rf _ h;have h2:=(bm (by decide) h1).1;have h3:=(gl h2).1;exact b_.1 (bm (by decide) h3).2
theorem Bb {c:aq} {x:aS} {i:Nat} {e:Int} (h:lS c x i e=0):(0≤x.cd∧x.cd<c.au.length)∧(0≤x.ie∧x.ie<c.au.length):=by
 unfold lS oW at h;have h1:=tB h;have h2:=(bm (by decide) h1).1;have h3:=(bm (by decide) h2).1;have h4:=(bm (by decide) h3).1;have h5:=(bm (by decide) h4).1;have h6:=(bm (by decide) h5).1;have h7:=(bm (by decide) h6).1;unfold kD at h7;have h8:=bm (by decide) h7;have h9:=bm (by decide) h8.1;have a:=b_.1 h8.2;have b:=b_.1 h9.2;exact ⟨by omega,by omega⟩
theorem rh {c:aq} {e:Int} (h:ko c e=0):e=0∧ ∀i (hi:i<c.lines.length),(0≤c.lines[i].cd∧c.lines[i].cd<c.au.length)∧(0≤c.lines[i].ie∧c.lines[i].ie<c.au.length):=by
 unfold ko at h;have h1:=fu (fun i e h=>cO (qm c) i e h) h;refine ⟨h1.1,fun i hi=> ?_⟩;have h2:=(h1.2 i hi).2;rw [gJ hi]at h2;exact Bb h2
theorem tC {c:aq} (hl: ∀i (hi:i<c.lines.length),(0≤c.lines[i].cd∧c.lines[i].cd<c.au.length)∧(0≤c.lines[i].ie∧c.lines[i].ie<c.au.length)) (h:Int):
 (∀p∈iR c h,p.1<c.au.length∧p.2<c.au.length)∧eY (gi c (cJ c h c.lines.length))=d_ (iR c h):=by
 constructor
 ·intro p hp
  obtain ⟨i,hi,rfl⟩:=List.mem_map.1 hp;have oK:=iJ c h _ i hi;rw [np oK];have:=hl i oK;simp only;omega
 ·unfold eY gi d_ iR
  rw [List.map_map,List.map_map];apply List.map_congr_left;intro i hi;have oK:=iJ c h _ i hi;have:=hl i oK;simp only [Function.comp,np oK];rw [Int.toNat_of_nonneg (by omega),Int.toNat_of_nonneg (by omega)]
theorem tD (c:aq) (h:Int):(iR c h).length=(cJ c h c.lines.length).length:=by simp [iR]
theorem yR {lo hi:Int} {l:List Int}:aY lo hi l=true↔ ∀x∈l,lo≤x∧x≤hi:=by
 unfold aY;simp [List.all_eq_true]
theorem j9 {lo hi:Int} {l:List Int} (h:aY lo hi l=true) (i:Nat) (hi':i<l.length):lo≤eF l i∧eF l i≤hi:=by
 rw [dM hi'];exact yR.1 h _ (List.getElem_mem hi')
theorem tE {c:aq} {e:Int}: ∀n,iI c e n=0→e=0∧ ∀j,j<n→((df c ((j:Int)+2)).length:Int)≤jE ((j:Int)+2)
 |0,h=>⟨by simpa [iI]using h,fun j hj=>absurd hj (Nat.not_lt_zero _)⟩
 |n+1,h=>by
  rw [ep]at h;have h1:=bm (by decide) h;have h2:=tE n h1.1;refine ⟨h2.1,fun j hj=> ?_⟩;by_cases q:j=n
  ·subst q;simpa using h1.2
  ·exact h2.2 j (by omega)
structure Cs (c:aq):Prop where
 hours:1≤c.hours∧c.hours≤24
 Gi:(c.az.length:Int)=c.hours
 res:aY 0 1048576 c.az=true
 au:1≤c.au.length∧c.au.length≤32
 lines:c.lines.length≤64
 aj:c.aj.length≤16
 stores:c.stores.length≤8
 aN:c.aN.length≤8
 outs:c.outs.length≤64
theorem DG {c:aq} {e:Int} (h:gz c e=0):Cs c:=by
 unfold gz at h;have h1:=tE _ h;have h2:=bm (by decide) h1.1;have h3:=gl h2.1;have h4:=b_.1 (bm (by decide) h3.1).2;have h5:=b_.1 h2.2;have m0:=h1.2 0 (by decide);have m1:=h1.2 1 (by decide);have m2:=h1.2 2 (by decide);have m3:=h1.2 3 (by decide);have m4:=h1.2 4 (by decide)
 simp [df,jE]at m0 m1 m2 m3 m4;exact ⟨h4,h3.2.1,h3.2.2,by omega,by omega,by omega,by omega,by omega,by omega⟩
theorem DI {c:aq} {x:cN} {i:Nat} {e:Int} (h:ql c x i e=0):(x.bU.length:Int)=c.hours∧aY 0 1048576 x.bU=true∧0≤x.gF∧x.gF≤1048576:=by
 unfold ql nZ at h;have h1:=bm (by decide) h;have h2:=gl h1.1;exact ⟨h2.2.1,h2.2.2,b_.1 h1.2⟩
theorem qp {e:Int} {c:aq} {i:Int} (h:kD e c i=0):e=0∧0≤i∧i<c.au.length:=by
 unfold kD at h;have h1:=bm (by decide) h;have h2:=b_.1 h1.2;exact ⟨h1.1,by omega,by omega⟩
theorem Bc {e:Int} {x:aF} (h:jI e x=0):e=0∧(x.aI.length:Int)≤8∧x.aI.all gH=true:=by
 unfold jI at h;have h1:=bm (by decide) (bm (by decide) (bm (by decide) h).1).1;have h2:=bm (by decide) h1.1;exact ⟨h2.1,by simpa using h2.2,h1.2⟩
structure Gj (c:aq) (x:aF):Prop where
 cX:0≤x.cX∧x.cX<c.au.length
 min:0≤x.min∧x.min≤x.max
 max:x.max≤1048576
 aI:(x.aI.length:Int)≤8
 EP:x.aI.all gH=true
 cg:0≤x.cg∧x.cg≤1048576
 cj:0≤x.cj∧x.cj≤1048576
 a_:0≤x.a_∧x.a_≤1048576
 aW:x.min≤x.aW∧x.aW≤x.max
 bf:x.min≤x.bf∧x.bf≤x.max
 bQ:0≤x.bQ∧x.bQ≤24
 bg:0≤x.bg∧x.bg≤24
 startTime:0≤x.startTime∧x.startTime≤24
 bA:0≤x.bA∧x.bA≤1048576
 bh:0≤x.bh∧x.bh≤1048576
 bj:0≤x.bj∧x.bj≤24
 az:0≤x.az∧x.az≤1048576
 aJ:0≤x.aJ∧x.aJ≤1048576
 state:0≤x.state∧x.state≤2
 Pu:(x.state !=1||decide (0<x.startTime))=true
 hours:1≤x.hours∧x.hours≤48
 started:(x.state !=1||decide (x.hours≤x.startTime))=true
theorem Bd {c:aq} {x:aF} {i:Nat} {e:Int} (h:lT c x i e=0):Gj c x:=by
 unfold lT lQ at h;have a1:=bm (by decide) h;have a2:=bm (by decide) a1.1;have a3:=bm (by decide) a2.1;have a4:=bm (by decide) a3.1;have a5:=bm (by decide) a4.1;have a6:=tB a5.1;have b1:=bm (by decide) a6;have b2:=bm (by decide) b1.1;have b3:=bm (by decide) b2.1;have b4:=bm (by decide) b3.1;have b5:=bm (by decide) b4.1;have b6:=bm (by decide) b5.1;have b7:=bm (by decide) b6.1;have b8:=bm (by decide) b7.1;have b9:=bm (by decide) b8.1;have XG:=bm (by decide) b9.1;have XH:=bm (by decide) XG.1;have XI:=bm (by decide) XH.1;have XJ:=bm (by decide) XI.1;have d0:=Bc XJ.1;have d1:=bm (by decide) d0.1;have d2:=bm (by decide) d1.1;have d3:=qp d2.1;have m1:=b_.1 d2.2;have m2:=b_.1 d1.2
 exact ⟨d3.2,by omega,m2.2,d0.2.1,d0.2.2,b_.1 XJ.2,b_.1 XI.2,b_.1 XH.2,b_.1 XG.2,b_.1 b9.2,b_.1 b8.2,b_.1 b7.2,b_.1 b6.2,b_.1 b5.2,b_.1 b4.2,b_.1 b3.2,b_.1 b2.2,b_.1 b1.2,b_.1 a5.2,a4.2,b_.1 a3.2,a2.2⟩
structure Ct (c:aq) (x:bp):Prop where
 cX:0≤x.cX∧x.cX<c.au.length
 capacity:0≤x.capacity∧x.capacity≤1048576
 initial:0≤x.initial∧x.initial≤x.capacity
 final:0≤x.final∧x.final≤x.capacity
 dI:0≤x.dI∧x.dI≤1048576
 discharge:0≤x.discharge∧x.discharge≤1048576
 Ue:((bq x.en x.ed&&decide (0<x.en))&&decide (x.en≤x.ed))=true
theorem yS {c:aq} {x:bp} {i:Nat} {e:Int} (h:jh c x i e=0):Ct c x:=by
 unfold jh ll at h;have a1:=bm (by decide) h;have a2:=bm (by decide) a1.1;have a3:=bm (by decide) a2.1;have a4:=bm (by decide) a3.1;have a5:=bm (by decide) a4.1;have a6:=bm (by decide) a5.1;have a7:=qp a6.1;exact ⟨a7.2,b_.1 a6.2,b_.1 a5.2,b_.1 a4.2,b_.1 a3.2,b_.1 a2.2,a1.2⟩
structure K1 (c:aq) (x:dW):Prop where
 cX:0≤x.cX∧x.cX<c.au.length
 imp:(x.imp.length:Int)=c.hours∧aY 0 1048576 x.imp=true
 exp:(x.exp.length:Int)=c.hours∧aY 0 1048576 x.exp=true
 aX:(x.aX.length:Int)=c.hours∧aY (-1048576) 1048576 x.aX=true
theorem DJ {c:aq} {x:dW} {i:Nat} {e:Int} (h:rQ c x i e=0):K1 c x:=by
 unfold rQ wE at h;have a1:=gl h;have a2:=gl a1.1;have a3:=gl a2.1;have a4:=qp a3.1;exact ⟨a4.2,a3.2,a2.2,a1.2⟩
theorem jL {α:Type} {l:List α} {F:α→Nat→Int→Int} (hF: ∀x i e,e≠0→F x i e=e) {e:Int} (h:cM (bW l F) e l.length=0):e=0∧ ∀i (hi:i<l.length),F l[i] i 0=0:=by
 have h1:=fu (fun i e h=>cO hF i e h) h;refine ⟨h1.1,fun i hi=> ?_⟩;have h2:=(h1.2 i hi).2;rw [gJ hi]at h2;exact h2
structure eZ (c:aq):Prop where
 frame:Cs c
 cX: ∀x∈c.au,(x.bU.length:Int)=c.hours∧aY 0 1048576 x.bU=true∧0≤x.gF∧x.gF≤1048576
 line: ∀i (hi:i<c.lines.length),(0≤c.lines[i].cd∧c.lines[i].cd<c.au.length)∧(0≤c.lines[i].ie∧c.lines[i].ie<c.au.length)
 unit: ∀x∈c.aj,Gj c x
 store: ∀x∈c.stores,Ct c x
 tie: ∀x∈c.aN,K1 c x
theorem Cu {c:aq} (h7:q9 c (qZ c (j8 c (mJ c (ko c (mI c (gz c 0))))))=0):eZ c:=by
 have h6:=jL (pg c) h7;have h5:=jL (pd c) h6.1;have h4:=jL (ly c) h5.1;have h3:=jL (nt c) h4.1;have h2:=rh (c:=c) h3.1;have h1:=jL (o_ c) h2.1;refine ⟨DG h1.1,?_,h2.2,?_,?_,?_⟩
 ·intro x hx
  obtain ⟨i,hi,rfl⟩:=List.getElem_of_mem hx;exact DI (h1.2 i hi)
 ·intro x hx
  obtain ⟨i,hi,rfl⟩:=List.getElem_of_mem hx;exact Bd (h3.2 i hi)
 ·intro x hx
  obtain ⟨i,hi,rfl⟩:=List.getElem_of_mem hx;exact yS (h4.2 i hi)
 ·intro x hx
  obtain ⟨i,hi,rfl⟩:=List.getElem_of_mem hx;exact DJ (h5.2 i hi)
theorem kJ {c:aq} (h:bT c=0):eZ c:=by
 unfold bT at h;unfold tA at h;exact Cu (fu (nw c) h).1
def desc (l:List Int):List Int:=l.mergeSort (fun a b=>decide (b≤a))
theorem fJ (l:List Int):(desc l).Perm l:=List.mergeSort_perm l _
theorem mK (l:List Int):(desc l).Pairwise (fun a b=>b≤a):=by
 have h:=List.pairwise_mergeSort (le:=fun a b:Int=>decide (b≤a)) (fun a b c h1 h2=>by simp at*;omega) (fun a b=>by simp;omega) l;exact h.imp (fun h=>by simpa using h)
theorem Jo {l d:List Int} (hp:d.Perm l) (hs:d.Pairwise (fun a b=>b≤a)):d=desc l:=
 List.Perm.eq_of_pairwise (le:=fun a b:Int=>b≤a) (fun a b _ _ h1 h2=>by omega) hs (mK l) (hp.trans (fJ l).symm)
theorem dH (l:List Int):(desc l).length=l.length:=(fJ l).length_eq
def tF (s:Int):List Int→Int→Nat
 | [],_=>0
 |d::l,want=>if want≤s then 0 else tF (s+d) l want+1
theorem Be (s:Int) (l:List Int) (want:Int):tF s l want≤l.length:=by
 induction l generalizing s with
 |nil=>exact Nat.le_refl _
 |cons d l ih=>unfold tF;split<;>simp<;>first|exact ih _|skip
theorem pj (s:Int) (l:List Int) (want:Int) (hl: ∀x∈l,0≤x) (k:Nat) (hk:k<l.length):s+(l.take k).sum<want↔k<tF s l want:=by
 induction l generalizing s k with
 |nil=>simp at hk
 |cons d l ih=>
  have h0:0≤((d::l).take k).sum:=by
   have: ∀m:List Int,(∀x∈m,0≤x)→0≤m.sum:=by
    intro m hm;induction m with
    |nil=>simp
    |cons y m ihm=>have:=hm y (by simp);have:=ihm (fun x hx=>hm x (by simp [hx]));simp;omega
   exact this _ (fun x hx=>hl x (List.mem_of_mem_take hx))
  unfold tF;by_cases hw:want≤s
  ·rw [if_pos hw];constructor<;>intro<;>omega
  ·rw [if_neg hw]
   cases k with
   |zero=>simp;omega
   |succ k=>
    have h1:=ih (s+d) (fun x hx=>hl x (by simp [hx])) k (by simpa using hk);rw [List.take_succ_cons,List.sum_cons];have e:s+(d+(l.take k).sum)=s+d+(l.take k).sum:=by omega
    rw [e,h1];omega
theorem Gk {d:Int} {D R:List Int} (hs:(d::D).Pairwise (fun a b=>b≤a)) (hp:R.Perm (d::D)) {x:Int} (hx:x∈R) (hm: ∀y∈R,y≤x):x=d:=by
 have h1:x∈d::D:=hp.mem_iff.1 hx;have h2:d∈R:=hp.mem_iff.2 (by simp);have h3:=hm d h2;rcases List.mem_cons.1 h1 with h|h
 ·exact h
 ·have:=(List.pairwise_cons.1 hs).1 x h
  omega
theorem DK {d:Int} {D R R':List Int} (hp:R.Perm (d::D)) (hq:R.Perm (d::R')):R'.Perm D:=(hq.symm.trans hp).cons_inv
theorem Gl (cap:Nat→Int): ∀(l:List Nat) (t:Nat→Bool) (b:Nat),l.Nodup→b∈l→t b=false→
 ((l.filter fun u=> !t u).map cap).Perm (cap b::(l.filter fun u=> !(t u||u==b)).map cap):=by
 intro l t b hn hb ht;induction l with
 |nil=>simp at hb
 |cons u l ih=>
  rw [List.nodup_cons]at hn;by_cases Oc:u=b
  ·subst Oc
   have h1:l.filter (fun v=> !(t v||v==u))=l.filter fun v=> !t v:=by
    apply List.filter_congr;intro v hv;have:(v==u)=false:=by simp;rintro rfl;exact hn.1 hv
    rw [this,Bool.or_false]
   rw [List.filter_cons_of_pos (by rw [ht];rfl),List.filter_cons_of_neg (by simp),h1,List.map_cons]
  ·have hb':b∈l:=by rcases List.mem_cons.1 hb with h|h;exact absurd h.symm Oc;exact h
   have hq:(u==b)=false:=by simpa using Oc
   cases Cv:t u with
   |true=>
    rw [List.filter_cons_of_neg (by rw [Cv];simp),List.filter_cons_of_neg (by rw [Cv];simp)];exact ih hn.2 hb'
   |false=>
    rw [List.filter_cons_of_pos (by rw [Cv];rfl),List.filter_cons_of_pos (by rw [Cv,hq];rfl),List.map_cons,List.map_cons];exact ((ih hn.2 hb').cons (cap u)).trans (List.Perm.swap _ _ _)
def tG (c:aq) (u:Nat):Int:=(c.aj[u]?.map aF.max).getD 0
def vM (c:aq) (u:Nat):List Int:=(c.aj[u]?.map aF.away).getD []
def bC (c:aq) (h:Int) (u:Nat):Int:=if hasB (vM c u) h=true then 0 else tG c u
theorem tH {c:aq} {i:Nat} (h:i<c.aj.length):tG c i=c.aj[i].max:=by unfold tG;rw [List.getElem?_eq_getElem h];rfl
theorem yT {c:aq} {i:Nat} (h:i<c.aj.length):vM c i=c.aj[i].away:=by unfold vM;rw [List.getElem?_eq_getElem h];rfl
theorem fV {c:aq} (hc:eZ c) (h:Int) (u:Nat):0≤bC c h u∧bC c h u≤1048576:=by
 unfold bC;split
 ·omega
 ·by_cases hu:u<c.aj.length
  ·rw [tH hu]
   have:=hc.unit _ (List.getElem_mem hu);have h1:=this.min;have h2:=this.max
   omega
  ·unfold tG;rw [List.getElem?_eq_none (by omega)];simp
def gu (c:aq) (h:Int) (us:List Int) (n:Nat):Int:=(((List.range n).filter fun(u:Nat)=> !hasB us (u:Int)).map (bC c h)).sum
def jq (c:aq) (h:Int) (us:List Int) (n:Nat):List Int:=((List.range n).filter fun(u:Nat)=>hasB us (u:Int)).map (bC c h)
theorem jM (c:aq) (h:Int) (us:List Int) (n:Nat):gu c h us (n+1)=if hasB us (n:Int)=true then gu c h us n else gu c h us n+bC c h n:=by
 unfold gu;rw [List.range_succ,List.filter_append];cases q:hasB us (n:Int)<;>simp [q]
theorem Bf (c:aq) (h:Int) (us:List Int) (n:Nat):jq c h us (n+1)=if hasB us (n:Int)=true then jq c h us n++ [bC c h n]else jq c h us n:=by
 unfold jq;rw [List.range_succ,List.filter_append];cases q:hasB us (n:Int)<;>simp [q]
theorem mL {c:aq} (hc:eZ c) (h:Int) (us:List Int) (n:Nat):0≤gu c h us n∧gu c h us n≤n*1048576:=by
 induction n with
 |zero=>simp [gu]
 |succ n ih=>
  rw [jM];have:=fV hc h n;split<;>omega
def fl (c:aq) (h n:Nat):Int:=((c.au.take n).map fun b=>if b.gF=0 then eF b.bU h else 0).sum
def gY (c:aq) (n:Nat):Int:=((c.stores.take n).map bp.discharge).sum
def jr (c:aq) (h n:Nat):Int:=((c.aN.take n).map fun t=>eF t.imp h).sum
def kK (c:aq) (h:Nat):Int:=eF c.az h+fl c h c.au.length-gY c c.stores.length-jr c h c.aN.length
theorem pk (l:List Int) (x:Int):(l++ [x]).sum=l.sum+x:=by rw [List.sum_append];simp
theorem ot (c:aq) (h:Nat) {n:Nat} (hn:n<c.au.length):fl c h (n+1)=fl c h n+(if c.au[n].gF=0 then eF c.au[n].bU h else 0):=by
 unfold fl;rw [List.take_succ_eq_append_getElem hn,List.map_append,List.map_cons,List.map_nil,pk]
theorem ov (c:aq) {n:Nat} (hn:n<c.stores.length):gY c (n+1)=gY c n+c.stores[n].discharge:=by
 unfold gY;rw [List.take_succ_eq_append_getElem hn,List.map_append,List.map_cons,List.map_nil,pk]
theorem ow (c:aq) (h:Nat) {n:Nat} (hn:n<c.aN.length):jr c h (n+1)=jr c h n+eF c.aN[n].imp h:=by
 unfold jr;rw [List.take_succ_eq_append_getElem hn,List.map_append,List.map_cons,List.map_nil,pk]
theorem mM {c:aq} (hc:eZ c) (h:Nat) (hh:(h:Int)<c.hours): ∀n,n≤c.au.length→0≤fl c h n∧fl c h n≤n*1048576
 |0,_=>by simp [fl]
 |n+1,hn=>by
  have ih:=mM hc h hh n (by omega);rw [ot c h (by omega)];have hb:=hc.cX _ (List.getElem_mem (show n<c.au.length by omega));have:=j9 hb.2.1 h (by omega);split<;>omega
theorem mN {c:aq} (hc:eZ c): ∀n,n≤c.stores.length→0≤gY c n∧gY c n≤n*1048576
 |0,_=>by simp [gY]
 |n+1,hn=>by
  have ih:=mN hc n (by omega);rw [ov c (by omega)];have hb:=(hc.store _ (List.getElem_mem (show n<c.stores.length by omega))).discharge;omega
theorem mO {c:aq} (hc:eZ c) (h:Nat) (hh:(h:Int)<c.hours): ∀n,n≤c.aN.length→0≤jr c h n∧jr c h n≤n*1048576
 |0,_=>by simp [jr]
 |n+1,hn=>by
  have ih:=mO hc h hh n (by omega);rw [ow c h (by omega)];have hb:=(hc.tie _ (List.getElem_mem (show n<c.aN.length by omega))).imp;have:=j9 hb.2 h (by omega);omega
structure dQ (n:Nat) (us:List Nat):Prop where
 wU:us.Pairwise (· < ·)
 lt: ∀u∈us,u<n
theorem dQ.nodup {n:Nat} {us:List Nat} (h:dQ n us):us.Nodup:=h.wU.imp (fun h=>Nat.ne_of_lt h)
theorem Cw: ∀{a b:List Nat},a.Pairwise (· < ·)→b.Pairwise (· < ·)→(∀x,x∈a↔x∈b)→a=b
 | [],[],_,_,_=>rfl
 | [],y::b,_,_,h=>absurd ((h y).2 (by simp)) (by simp)
 |x::a,[],_,_,h=>absurd ((h x).1 (by simp)) (by simp)
 |x::a,y::b,ha,hb,h=>by
  rw [List.pairwise_cons]at ha hb
  have sU:x=y:=by
   have h1:=(h x).1 (by simp);have h2:=(h y).2 (by simp);rcases List.mem_cons.1 h1 with e|e
   ·exact e
   ·rcases List.mem_cons.1 h2 with e'|e'
    ·exact e'.symm
    ·have:=hb.1 x e;have:=ha.1 y e';omega
  subst sU;congr 1
  refine Cw ha.2 hb.2 fun z=> ?_;constructor
  ·intro hz
   rcases List.mem_cons.1 ((h z).1 (by simp [hz]))with e|e
   ·subst e;have:=ha.1 z hz;omega
   ·exact e
  ·intro hz
   rcases List.mem_cons.1 ((h z).2 (by simp [hz]))with e|e
   ·subst e;have:=hb.1 z hz;omega
   ·exact e
theorem iw (us:List Nat) (u:Nat):hasB (aC us) (u:Int)=true↔u∈us:=by
 unfold hasB aC;rw [List.any_eq_true];constructor
 ·rintro ⟨x,hx,e⟩
  obtain ⟨j,hj,rfl⟩:=List.mem_map.1 hx;have e':((j:Nat):Int)=(u:Int):=by simpa using e
  have:j=u:=by omega
  exact this▸hj
 ·intro h
  exact ⟨(u:Int),List.mem_map.2 ⟨u,h,rfl⟩,by simp⟩
theorem vN {c:aq} {h:Int} {n:Nat} {us:List Nat} (hu:dQ n us):jq c h (aC us) n=us.map (bC c h):=by
 unfold jq;congr 1
 refine Cw ((List.pairwise_lt_range).filter _) hu.wU fun x=> ?_;rw [List.mem_filter,iw,List.mem_range];exact ⟨fun h=>h.2,fun h=>⟨hu.lt x h,h⟩⟩
def fw (c:aq) (h:Nat) (us:List Nat):Nat:=tF (gu c h (aC us) c.aj.length) (desc (us.map (bC c h))) (kK c h)
theorem Cx (c:aq) (h:Nat) (us:List Nat):fw c h us≤us.length:=by
 unfold fw;refine Nat.le_trans (Be _ _ _) ?_;rw [dH,List.length_map];exact Nat.le_refl _
def gA (c:aq) (h:Nat) (us:List Nat) (k:Nat):Int:=gu c h (aC us) c.aj.length+((desc (us.map (bC c h))).take k).sum
theorem Gm {c:aq} (hc:eZ c) (h:Nat) (us:List Nat) (k:Nat) (hk:k<us.length):gA c h us k<kK c h↔k<fw c h us:=by
 unfold gA fw;refine pj _ _ _ (fun x hx=> ?_) k (by rw [dH,List.length_map];exact hk);have:=(fJ _).mem_iff.1 hx;obtain ⟨u,_,rfl⟩:=List.mem_map.1 this;exact (fV hc h u).1
def iK (c:aq) (h:Nat) (us:List Nat) (j:Nat) (t:Nat→Bool):Prop:=((us.filter fun u=> !t u).map (bC c h)).Perm ((desc (us.map (bC c h))).drop j)
theorem iK.zero (c:aq) (h:Nat) (us:List Nat):iK c h us 0 (fun _=>false):=by
 unfold iK;have:(us.filter fun u=> !(fun _=>false) u)=us:=List.filter_eq_self.2 (fun _ _=>rfl);rw [this,List.drop_zero];exact (fJ _).symm
theorem iK.some {c:aq} {h:Nat} {us:List Nat} {j:Nat} {t:Nat→Bool} (r:iK c h us j t) (hj:j<us.length): ∃x∈us,t x=false:=by
 unfold iK at r;have hl:=r.length_eq;rw [List.length_drop,dH,List.length_map,List.length_map]at hl;have:0<(us.filter fun u=> !t u).length:=by omega
 obtain ⟨x,hx⟩:=List.exists_mem_of_length_pos this;rw [List.mem_filter]at hx;exact ⟨x,hx.1,by simpa using hx.2⟩
theorem iK.step {c:aq} {h:Nat} {us:List Nat} {j:Nat} {t:Nat→Bool} (r:iK c h us j t) (hn:us.Nodup) (hj:j<us.length) {x:Nat} (hx:x∈us) (ht:t x=false) (hm: ∀y∈us,t y=false→bC c h y≤bC c h x):
 iK c h us (j+1) (fun u=>t u||u==x)∧gA c h us (j+1)=gA c h us j+bC c h x:=by
 unfold iK at*;have hlen:j<(desc (us.map (bC c h))).length:=by rw [dH,List.length_map];exact hj
 have hd:=List.drop_eq_getElem_cons hlen;have XK:((desc (us.map (bC c h))).drop j).Pairwise (fun a b=>b≤a):=(mK _).sublist (List.drop_sublist _ _);rw [hd]at XK;rw [hd]at r;have Mh:bC c h x∈(us.filter fun u=> !t u).map (bC c h):=List.mem_map.2 ⟨x,List.mem_filter.2 ⟨hx,by rw [ht];rfl⟩,rfl⟩
 have Uf: ∀y∈(us.filter fun u=> !t u).map (bC c h),y≤bC c h x:=by
  intro y hy;obtain ⟨u,hu,rfl⟩:=List.mem_map.1 hy;rw [List.mem_filter]at hu;exact hm u hu.1 (by simpa using hu.2)
 have he:=Gk XK r Mh Uf;refine ⟨?_,?_⟩
 ·have h1:=Gl (bC c h) us t x hn hx ht
  rw [←he]at r;exact DK r h1
 ·unfold gA
  rw [List.take_succ_eq_append_getElem hlen,pk,he];omega
theorem wV {c:aq} (hc:eZ c) (h:Nat) (us:List Nat) (k:Nat):0≤gA c h us k∧gA c h us k≤c.aj.length*1048576+k*1048576:=by
 have h1:=mL hc h (aC us) c.aj.length
 have h2: ∀k,0≤((desc (us.map (bC c h))).take k).sum∧((desc (us.map (bC c h))).take k).sum≤k*1048576:=by
  intro k
  have hall: ∀x∈desc (us.map (bC c h)),0≤x∧x≤1048576:=by
   intro x hx;obtain ⟨u,_,rfl⟩:=List.mem_map.1 ((fJ _).mem_iff.1 hx);exact fV hc h u
  generalize desc (us.map (bC c h))=D at hall;induction D generalizing k with
  |nil=>simp;omega
  |cons d D ih=>
   cases k with
   |zero=>simp
   |succ k=>
    have:=ih k (fun x hx=>hall x (List.mem_cons_of_mem _ hx));have:=hall d (by simp);rw [List.take_succ_cons,List.sum_cons];omega
 have:=h2 k;unfold gA;omega
theorem tI (x:Int) (hx:0≤x): ∀D:List Int,D.Pairwise (fun a b=>b≤a)→(∀y∈D,0≤y)→
 ∃D':List Int,D'.Pairwise (fun a b=>b≤a)∧D'.Perm (x::D)∧(∀k,k≤D.length→x+(D.take k).sum≤(D'.take (k+1)).sum)∧ ∀k,(D'.take k).sum≤x+(D.take k).sum
 | [],_,_=>⟨[x],by simp,List.Perm.refl _,fun k hk=>by simp,fun k=>by cases k<;>simp<;>omega⟩
 |d::D,hs,h0=>by
  have hd:=h0 d (by simp);by_cases q:d≤x
  ·refine ⟨x::d::D,?_,List.Perm.refl _,fun k _=>by rw [List.take_succ_cons,List.sum_cons];omega,fun k=> ?_⟩
   ·rw [List.pairwise_cons]
    refine ⟨fun y hy=> ?_,hs⟩;rcases List.mem_cons.1 hy with e|e
    ·omega
    ·have:=(List.pairwise_cons.1 hs).1 y e;omega
   ·cases k with
    |zero=>simp;omega
    |succ k=>
     rw [List.take_succ_cons,List.sum_cons]
     have: ∀(E:List Int),(∀y∈E,0≤y)→ ∀k,(E.take k).sum≤(E.take (k+1)).sum:=by
      intro E;induction E with
      |nil=>intro _ k;simp
      |cons e E ih=>
       intro hE k;have he:=hE e (by simp);cases k with
       |zero=>simp;omega
       |succ k=>have:=ih (fun y hy=>hE y (by simp [hy])) k;rw [List.take_succ_cons,List.take_succ_cons,List.sum_cons,List.sum_cons];omega
     have:=this (d::D) h0 k;omega
  ·obtain ⟨D',h1,h2,h3,h4⟩:=tI x hx D (List.pairwise_cons.1 hs).2 (fun y hy=>h0 y (by simp [hy]))
   refine ⟨d::D',?_,(h2.cons d).trans (List.Perm.swap _ _ _),?_,?_⟩
   ·rw [List.pairwise_cons]
    refine ⟨fun y hy=> ?_,h1⟩;rcases List.mem_cons.1 (h2.mem_iff.1 hy)with e|e
    ·omega
    ·exact (List.pairwise_cons.1 hs).1 y e
   ·intro k hk
    cases k with
    |zero=>simp;omega
    |succ k=>
     have:=h3 k (by simpa using hk);rw [List.take_succ_cons,List.take_succ_cons,List.sum_cons,List.sum_cons];omega
   ·intro k
    cases k with
    |zero=>simp;omega
    |succ k=>
     have:=h4 k;rw [List.take_succ_cons,List.take_succ_cons,List.sum_cons,List.sum_cons];omega
theorem Gn (s x want:Int) (l l':List Int) (h0: ∀y∈l,0≤y) (hx:0≤x) (hp:l'.Perm (x::l)):tF (s+x) (desc l) want≤tF s (desc l') want∧tF s (desc l') want≤tF (s+x) (desc l) want+1:=by
 have Ug: ∀y∈desc l,0≤y:=fun y hy=>h0 y ((fJ l).mem_iff.1 hy)
 have Pv: ∀y∈desc l',0≤y:=fun y hy=>by
  rcases List.mem_cons.1 (hp.mem_iff.1 ((fJ l').mem_iff.1 hy))with e|e
  ·omega
  ·exact h0 y e
 obtain ⟨D',i1,i2,i3,i4⟩:=tI x hx (desc l) (mK l) Ug;have hD:D'=desc l':=Jo (i2.trans (((fJ l).cons x).trans hp.symm)) i1;rw [hD]at i3 i4;have hl:l'.length=l.length+1:=by simpa using hp.length_eq
 have b1:=Be (s+x) (desc l) want;have b2:=Be s (desc l') want;rw [dH]at b1 b2;generalize hm:tF (s+x) (desc l) want=m at*;generalize hn:tF s (desc l') want=n at*;constructor
 ·apply Classical.byContradiction
  intro hlt;have h1:=(pj (s+x) (desc l) want Ug n (by rw [dH];omega)).2 (by omega);have h2:=i4 n;have h3:=(pj s (desc l') want Pv n (by rw [dH];omega)).1 (by omega);omega
 ·apply Classical.byContradiction
  intro hlt;have h1:=(pj s (desc l') want Pv (m+1) (by rw [dH];omega)).2 (by omega);have h2:=i3 m (by rw [dH];omega);have h3:=(pj (s+x) (desc l) want Ug m (by rw [dH];omega)).1 (by omega);omega
end Go.Proofs.YtkpngkdgphojlaaGreat
