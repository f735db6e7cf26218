/- Texts of the proof. -/
import Derived.Test.YtkpngkdgphojlaaGreatCd10
set_option linter.all false
set_option maxHeartbeats 2000000
set_option maxRecDepth 100000
namespace Go.Proofs.YtkpngkdgphojlaaGreat
open Go.Proofs.Tryz
open Go.RowKit
def St.yQ (s:St) (n:Int) (field:Int) (l:List Int):St:=l.foldl (fun s v=>s.need (decide (0≤v)&&decide (v<n)) field 12) s
def St.KW (s:St) (l:List bE):St:=l.foldl (fun s m=>(s.within 3 m.up 0 1048576).within 3 m.down 0 1048576) s
def St.moves (s:St) (c:ai) (x:bB):St:=
 if((s.need (decide (x.moves.length=0)||x.bC) 3 16).need (decide ((x.moves.length:Int)≤16)) 3 8).err≠0 then(s.need (decide (x.moves.length=0)||x.bC) 3 16).need (decide ((x.moves.length:Int)≤16)) 3 8
 else(((((s.need (decide (x.moves.length=0)||x.bC) 3 16).need (decide ((x.moves.length:Int)≤16)) 3 8).yQ c.au.length 3 (x.moves.map bE.unit)).need (g_ (x.moves.map bE.unit)) 3 11)).KW x.moves
def St.ky (c:ai) (x:bB) (prev:List ByteArray) (i:Int) (s:St):St:=
 if((((s.at 6 i).name x.name prev).need (decide (x.lines.length=1)||decide (x.lines.length=2)) 1 4)).err≠0 then((s.at 6 i).name x.name prev).need (decide (x.lines.length=1)||decide (x.lines.length=2)) 1 4
 else(((((s.at 6 i).name x.name prev).need (decide (x.lines.length=1)||decide (x.lines.length=2)) 1 4).yQ c.lines.length 1 x.lines).need (g_ x.lines) 1 11).moves c x
def St.iA (c:ai) (s:St) (n:Nat):St:=(List.range n).foldl (fun s i=>match c.outs[i]? with|some x=>St.ky c x ((c.outs.take i).map bB.name) i s|none=>s) s
def St.outs (s:St) (c:ai):St:=St.iA c s c.outs.length
theorem St.AJ (c:ai) (s:St) (i:Nat) (h:i<c.outs.length):St.iA c s (i+1)=St.ky c c.outs[i] ((c.outs.take i).map bB.name) i (St.iA c s i):=by
 unfold St.iA;rw [List.range_succ,List.foldl_append,List.foldl_cons,List.foldl_nil,List.getElem?_eq_getElem h]
theorem St.AK (s:St) (n f:Int) (l:List Int) (v:Int):s.yQ n f (l++ [v])=(s.yQ n f l).need (decide (0≤v)&&decide (v<n)) f 12:=by
 unfold St.yQ;rw [List.foldl_append];rfl
theorem St.H7 (s:St) (n f:Int) (l:List Int) (i:Nat) (h:i<l.length):s.yQ n f (l.take (i+1))=(s.yQ n f (l.take i)).need (decide (0≤l[i])&&decide (l[i]<n)) f 12:=by
 rw [List.take_succ_eq_append_getElem h,St.AK]
theorem St.H8 (s:St) (l:List bE) (i:Nat) (h:i<l.length):s.KW (l.take (i+1))=((s.KW (l.take i)).within 3 l[i].up 0 1048576).within 3 l[i].down 0 1048576:=by
 unfold St.KW;rw [List.take_succ_eq_append_getElem h,List.foldl_append];rfl
theorem St.Nw (s:St) (k i:Int) (h:s.err≠0):s.at k i=s:=by unfold St.at;rw [if_neg h]
theorem St.H9 (s:St) (nm:ByteArray) (prev:List ByteArray) (h:s.err≠0):s.name nm prev=s:=by
 unfold St.name;rw [St.gm _ _ _ _ h,St.ng _ _ _ h]
theorem St.AO (c:ai) (x:bB) (prev:List ByteArray) (i:Int) (s:St) (h:s.err≠0):St.ky c x prev i s=s:=by
 unfold St.ky;rw [St.Nw _ _ _ h,St.H9 _ _ _ h,St.gm _ _ _ _ h,if_pos h]
theorem St.C5 (c:ai) (s:St) (i n:Nat) (hi:i≤n) (h:(St.iA c s i).err≠0):St.iA c s n=St.iA c s i:=by
 induction n with
 |zero=>rw [Nat.le_zero.1 hi]
 |succ n ih=>
  by_cases q:i=n+1
  ·rw [q]
  ·have h1:=ih (by omega)
   unfold St.iA at*;rw [List.range_succ,List.foldl_append,List.foldl_cons,List.foldl_nil,h1];split
   ·rw [St.AO _ _ _ _ _ h]
   ·rfl
theorem St.FH (s:St) (n:Int) (l:List bE) (i:Nat) (h:i<l.length):s.yQ n 3 ((l.take (i+1)).map bE.unit)=(s.yQ n 3 ((l.take i).map bE.unit)).need (decide (0≤l[i].unit)&&decide (l[i].unit<n)) 3 12:=by
 rw [List.take_succ_eq_append_getElem h,List.map_append];exact St.AK _ _ _ _ _
theorem nt {w w':World} {base:Nat} {e:TypeId} {s:Nat} {v:Value} {n:Nat} {xs:List Value} {K:Nat} (h:w.ownsRow base e s v n xs) (hX:ar K w w') (hK:K<base):w'.ownsRow base e s v n xs:=by
 obtain ⟨h1,h2⟩:=h;refine ⟨h1,?_⟩;rcases h2 with h2|⟨g,cap,cur,hv,hb,hg,hr⟩
 ·exact .inl h2
 ·refine .inr ⟨g,cap,cur,hv,hb,?_,hr⟩
  rw [hX.block g (Array.getElem?_eq_some_iff.1 hg).1 (by omega)];exact hg
theorem aN.but {w w':World} {B:Nat} {e:TypeId} {m:Nat} {v:Value} {rows:List (List Value)} {K:Nat} (h:aN w B e m v rows) (x:ar K w w') (hK:K<B):aN w' B e m v rows:=⟨nt h.own x hK,h.len⟩
theorem aJ.keep {w w':World} {b:Nat} {T:TypeId} {vs:List Value} (h:aJ w b T vs) (e:w'.heap[b]?=w.heap[b]?):aJ w' b T vs:=by
 unfold aJ;rw [e];exact h
theorem ar.append {K:Nat} {V w w':World} {base:Nat} {v:Value} (h:ar K V w) (hV:V.heap.size≤base) (hown: ∀k,v.ownBlock=some k→base≤k) (he: ∀a0,Ext a0 w→a0.heap.size≤base→Ext a0 w') (hb: ∀k,k<w.heap.size→some k≠v.ownBlock→w'.heap[k]?=w.heap[k]?) (hz:w.heap.size≤w'.heap.size):ar K V w':=by
 have h0:Ext {w with heap:= #[]} w:=⟨⟨rfl,rfl,rfl,Nat.zero_le _,fun k hk=>absurd hk (Nat.not_lt_zero _)⟩,Nat.le_refl _⟩;have h1:=he _ h0 (Nat.zero_le _);refine ⟨h1.below.os.trans h.os,h1.below.tape.trans h.tape,h1.below.output.trans h.output,Nat.le_trans h.drawn h1.drawn,Nat.le_trans h.size hz,fun k hk hkK=> ?_⟩;have hs:=h.size;rw [hb k (by omega) (fun e=>by have:=hown k e.symm;omega)];exact h.block k hk hkK
theorem KX (w0 V:World) (K:Nat) (c:ai) (s:St) (x:bB) (hK:w0.heap.size≤K) (hV:Ext w0 V) (jv:c.au.length≤9223372036854775807) (hm:bS w0 3 x.ma x.mc (x.moves.map bE.cells)) (PJ: ∀m∈x.moves,gl [m.unit,m.up,m.down]) (h:gY V K c s):
 Calls prog 147 #[.pointer (some ⟨K,0,none⟩),.agg #[.string x.name,.slice x.la x.lines.length x.lc,.bool x.bC,.slice x.ma x.moves.length x.mc]] V fun e' w'=>kW V K c (s.moves c x) e' w':=by
 have J9:=h.lt;have hle:=hm.le;have dy:=hm.cap
 rw [List.length_map]at hle;have HV:=ae hV;have HM:=ae hm;have PC:=ae PJ;have cX:=ae hK;have lK:=ae jv;have HH:=ae h
 obtain ⟨s1,hs1⟩: ∃s1,s.need (decide (x.moves.length=0)||x.bC) 3 16=s1:=⟨_,rfl⟩;obtain ⟨s2,hs2⟩: ∃s2,s1.need (decide ((x.moves.length:Int)≤16)) 3 8=s2:=⟨_,rfl⟩;unfold St.moves;rw [hs1,hs2];obtain ⟨sf,Pz⟩: ∃sf,(if s2.err≠0 then s2 else((s2.yQ c.au.length 3 (x.moves.map bE.unit)).need (g_ (x.moves.map bE.unit)) 3 11).KW x.moves)=sf:=⟨_,rfl⟩;rw [Pz];have Hr:=ae Pz;have GL:=ae hs1;have zQ:=ae hs2
 have VT:Hid (s2.err=0→x.moves.length≤16):=fun h0=>by
  rw [←hs2]at h0;have:=(St.yI (by decide) h0).2;rw [decide_eq_true_eq]at this;omega
 clear hs1 hs2 Pz h hm PJ hV hK jv;go_enter func147,ntmps147
 go_upto_region 1 with fail
 obtain ⟨W,hW,x0,Z0,A0⟩:=aH V 87 x.cells;rw [show V.alloc (.cells #[.string x.name,.slice x.la x.lines.length x.lc,.bool x.bC,.slice x.ma x.moves.length x.mc] 87)=W from hW.symm];clear hW;obtain ⟨B,hB⟩: ∃B,B=V.heap.size:=⟨_,rfl⟩;rw [←hB]at A0⊢;have fP:B≠K:=by omega
 have zR:=ae A0;have pG:=ae x0;have wC:=ae hB
 clear hB Z0 A0 x0;go_upto_region 1 with fail
 go_cut [] (fun wx=>gY wx K c s1∧ar K W wx∧aJ wx B 87 x.cells)
 case first=>
  as_aux_lemma=>
   obtain ⟨b0,b1,b2,b3⟩:=bB.at zR.o
   have HN:Hid (∀ok,ok=(decide (x.moves.length=0)||x.bC)→Calls prog 134 #[.pointer (some ⟨K,0,none⟩),.bool ok,i64 3,i64 16] W fun e' w'=>kW W K c s1 e' w'):=fun ok kM=>by
    have h5:=eF W K c s ok 3 16 (HH.o.ext pG.o);rw [kM,GL.o]at h5;rw [kM];exact h5
   by_cases q:x.moves.length=0
   ·have t:((x.moves.length:Int)==0)=true:=by rw [q];rfl
    have HQ:Hid (true=(decide (x.moves.length=0)||x.bC)):=by show _=_;rw [q];simp
    clear q;go_wp2_with fail
    refine (HN.o true HQ.o).mono ?_;rintro e w2 ⟨rfl,hk,hx⟩;have HR:=ae (And.intro hk (And.intro hx (zR.o.but hx fP)));clear hk hx b0 b1 b2 b3 t;go_wp2_with fail
    go_meet
    exact HR.o
   ·have t:((x.moves.length:Int)==0)=false:=by rw [beq_eq_false_iff_ne];omega
    have HQ:Hid (x.bC=(decide (x.moves.length=0)||x.bC)):=by
     show _=_;have:decide (x.moves.length=0)=false:=decide_eq_false q;rw [this,Bool.false_or]
    clear q;go_wp2_with fail
    refine (HN.o x.bC HQ.o).mono ?_;rintro e w2 ⟨rfl,hk,hx⟩;have HR:=ae (And.intro hk (And.intro hx (zR.o.but hx fP)));clear hk hx b0 b1 b2 b3 t;go_wp2_with fail
    go_meet
    exact HR.o
 case rest=>
  obtain ⟨hk,hx,hA⟩:=hcut;generalize wc=W1 at*;have mY:=ae hA;have fJ:Hid (ar K V W1):=(pG.o.but K).trans hx
  have h5:=eF W1 K c s1 (decide ((x.moves.length:Int)≤16)) 3 8 hk;rw [zQ.o]at h5;have GQ:=ae h5;obtain ⟨b0,b1,b2,b3⟩:=bB.at mY.o;clear hk hx hA h5 zR pG;go_wp2_with fail
  refine GQ.o.mono ?_;rintro e W2 ⟨rfl,hK2,hx2⟩;clear b0 b1 b2 b3;have tB:=ae (mY.o.but hx2 fP);have fg:=ae (fJ.o.trans hx2);have uA:=ae hK2;obtain ⟨-,-,-,Qz,-⟩:=m_ hK2;clear hx2 hK2 mY fJ GQ;by_cases h0:s2.err=0
  rotate_left
  ·have t1:(s2.err !=0)=true:=by simpa using h0
   have hf:=Hr.o;rw [if_pos h0]at hf;have HR:Hid (gY W2 K c sf):=by show gY _ _ _ _;rw [←hf];exact uA.o
   clear h0 hf;go_wp2_with fail
   exact bodyPost_ret (v:= .tuple #[]) (by simp [results,results147,go_sem]) rfl ⟨rfl,HR.o,fg.o⟩
  have t1:(s2.err !=0)=false:=by simpa using h0
  have h16:=VT.o h0;have hf:=Hr.o;rw [if_neg (fun e=>e h0)]at hf;have Hr:=ae hf;clear h0 hf;obtain ⟨b0,b1,b2,b3⟩:=bB.at tB.o;have hBl:B<W2.heap.size:=tB.o.lt;have H_:K<W2.heap.size:=uA.o.lt;obtain ⟨D,hD⟩: ∃D,D=W2.heap.size:=⟨_,rfl⟩;rw [←hD]at hBl H_;have HD:=ae hD;have PK:Hid (V.heap.size≤D):=by show _≤_;rw [hD];exact fg.o.size
  clear hD;go_wp2_with fail
  clear b0 b1 b2 b3 t1 Qz;go_loopw [4,33] (fun v ii wr=> ∃i:Nat,i≤x.moves.length∧gY wr K c (s2.yQ c.au.length 3 ((x.moves.take i).map bE.unit))∧ar K V wr∧aJ wr B 87 x.cells∧aN wr D 3 1 v ((x.moves.take i).map fun m=> [i64 m.unit])∧D≤wr.heap.size∧ii= .int .i64 i) (fun _ ii _=>x.moves.length-(intOf ii).toNat)
  case atStart=>exact ⟨0,Nat.zero_le _,uA.o,fg.o,tB.o,aN.nil _ _ _ _,by rw [HD.o];exact Nat.le_refl _,rfl⟩
  case round=>
   obtain ⟨i,hi,hk,hx,hA,hown,hD,rfl⟩:=hrel;clear uA fg tB;by_cases hlt:i<x.moves.length
   ·have hE:=hx.ext HV.o cX.o
    obtain ⟨b,o,ha,c0,c1,c2⟩:=(HM.o.ext hE).moves i hlt;have HT:=ae (St.FH s2 (c.au.length:Int) x.moves i hlt);have VU:Hid ((x.moves.take (i+1)).map (fun m=> [i64 m.unit])=(x.moves.take i).map (fun m=> [i64 m.unit])++ [[i64 x.moves[i].unit]]):=by show _=_;rw [List.take_succ_eq_append_getElem hlt,List.map_append];rfl
    have QK:((x.moves.take i).map (fun m=> [i64 m.unit])).length=i:=by simp;omega
    have PH:=ae QK;generalize s2.yQ (c.au.length:Int) 3 ((x.moves.take i).map bE.unit)=s3 at*;generalize (x.moves.take i).map (fun m=> [i64 m.unit])=R at*;obtain ⟨m,Ef⟩: ∃m,m=x.moves[i]:=⟨_,rfl⟩;rw [←Ef]at c0 c1 c2 HT VU
    have HOW:Hid (wr.ownsRow D 3 1 u4 i R.flatten):=by
     have h5:=hown.own;rw [QK]at h5;exact h5
    have HO:=ae hown;have Eg:=ae hk;have mS:=ae hx;have CV:=ae hA;have Mc:=ae hD
    have f_:(0:Int)≤(i:Int):=by omega
    have fU:(i:Int)<(x.moves.length:Int):=by omega
    clear hown hk hx hA hE hD Ef QK;rw [ha];go_upto_region 8 with fail
    obtain ⟨W3,hW3,x3,Z3,A3⟩:=aH wr 140 m.cells;rw [show wr.alloc (.cells #[i64 m.unit,i64 m.up,i64 m.down] 140)=W3 from hW3.symm];obtain ⟨E,lh⟩: ∃E,E=wr.heap.size:=⟨_,rfl⟩;rw [←lh]at A3⊢;have lg:E≠K:=by have:=Eg.o.lt;omega
    have e0:W3.cell? ⟨E,0,none⟩=some (i64 m.unit):=(A3.cell 0).trans rfl;have KR:=ae A3;have wL:=ae x3
    have Nx:=ae (Eg.o.ext x3);obtain ⟨-,-,-,-,k4,-⟩:=dO Nx.o;have jv:=lK.o;clear hW3 lh Z3 A3 x3 c0 c1 c2;rcases Bool.eq_false_or_eq_true (decide (0≤m.unit))with hp|hp
    ·refine aB (fun w'=>w'.cell? ⟨E,0,none⟩=some (i64 m.unit)∧w'.cell? ⟨K,4,none⟩=some (.slice c.ua c.au.length c.uc)) (fun w'=>True) (fun i=>false) (by kernel_rfl) (⟨e0,k4⟩) (trivial) (fun aq ah=> ?_)
     refine ay 0 aq ah ?_;refine ay 1 aq ah ?_;refine ay 2 aq ah ?_ (v:=i64 m.unit);refine ay 3 aq ah ?_;refine ay 4 aq ah ?_;refine ay 5 aq ah ?_;refine ay 6 aq ah ?_ (v:=i64 m.unit);refine ay 7 aq ah ?_;refine ay 8 aq ah ?_;refine ay 9 aq ah ?_;refine ay 10 aq ah ?_;refine ay 11 aq ah ?_;refine ay 12 aq ah ?_ (v:= .int .i64 (c.au.length:Int));refine ay 13 aq ah ?_ (v:= .bool (decide (m.unit<(c.au.length:Int))));refine ay 14 aq ah ?_ (v:= .bool (decide (m.unit<(c.au.length:Int))));refine dX 15 rfl (fun Kc hK=> ?_);go_simp;refine (eF W3.drew K c s3 (decide (m.unit<(c.au.length:Int))) 3 12 (Nx.o.ext (Ext.refl _).drew)).mono ?_;rintro e W4 ⟨rfl,hK4,j8⟩;refine hK.o _ _ (⟨bL (aj (Ext.refl W3).drew e0) j8 lg,(dO hK4).2.2.2.2.1⟩) (trivial) (fun aq ah=> ?_);clear hK Kc;try simp only [sS]
     refine ax (by kernel_rfl) ?_ _;clear aq ah;have xH:gY W4 K c (s3.need (decide (0≤m.unit)&&decide (m.unit<(c.au.length:Int))) 3 12):=by rw [hp];simpa using hK4
     clear hK4;have GR:=ae xH;have eY:ar K W3 W4:=((Ext.refl W3).drew.but K).trans j8;have wm:=ae eY;have PL:W4.cell? ⟨E,0,none⟩=some (i64 m.unit):=bL e0 eY lg;have Ia:Hid (W4.ownsRow D 3 1 u4 i R.flatten):=nt (bq HOW.o wL.o) eY H_;have VV:Hid (aN W4 D 3 1 u4 R):=(HO.o.ext wL.o).but eY H_;have VX:D≤W4.heap.size:=Nat.le_trans Mc.o (Nat.le_trans wL.o.size eY.size);have Ny:=ae VX;clear j8 eY xH hp jv e0 k4;go_wp2_with (at_builtin;refine aW _ rfl (.tmp 53) (.tmp 56) 22 rfl D 3 (.int .i64 0) 1 8 underlying22 Tryz.info_int rfl (by decide) u4 i R.flatten rfl ?c1 (some ⟨W4.heap.size,0,none⟩) 1 1 [i64 m.unit] rfl rfl ?c2 ?c3 ?c4 ?c5 (by decide) ?c6 ?_;rotate_right;intro v1 w5 ho he hb hz hv)
     case c1=>exact bq Ia.o ((Ext.refl _).alloc _)
     case c2=>exact fun _=>⟨_,rfl,cu W4 3 [i64 m.unit]⟩
     case c3=>intro u hu;rw [List.mem_singleton]at hu;subst hu;rfl
     case c4=>intro e;cases e
     case c5=>omega
     case c6=>have:=Ny.o;simp;omega
     have kd:=Ia.o.lt;have zU:(W4.alloc (.cells #[i64 m.unit] 3)).heap.size=W4.heap.size+1:=by simp
     have xK:gY w5 K c (s3.need (decide (0≤m.unit)&&decide (m.unit<(c.au.length:Int))) 3 12):=aJ.keep (GR.o.ext ((Ext.refl W4).alloc _)) (hb.o K (by have:=GR.o.lt;omega) (fun e=>by have:=(kd K e.symm).1;omega));have xB:aJ w5 B 87 x.cells:=aJ.keep ((CV.o.ext wL.o).but wm.o fP|>.ext ((Ext.refl W4).alloc _)) (hb.o B (by have:=Ny.o;omega) (fun e=>by have:=(kd B e.symm).1;omega));have xX:ar K V w5:=ar.append ((mS.o.trans ((wL.o.but K).trans wm.o)).alloc' _) PK.o (fun k e=>(kd k e).1) he.o hb.o hz.o;have i5:=VV.o.snoc (w':=w5) (v':=v1) (r:= [i64 m.unit]) rfl (by rw [PH.o];exact ho.o);have QL:D≤w5.heap.size:=by have:=hz.o;have:=Ny.o;omega
     have HR:=ae (And.intro xK (And.intro xX (And.intro xB (And.intro i5 QL))));clear xK xB xX i5 QL zU kd ho he hb hz hv PL;exact ⟨⟨i+1,by omega,by rw [HT.o];exact HR.o.1,HR.o.2.1,HR.o.2.2.1,by rw [VU.o];exact HR.o.2.2.2.1,HR.o.2.2.2.2,by go_num⟩,by simp only [intOf];omega⟩
    ·refine aB (fun w'=>w'.cell? ⟨E,0,none⟩=some (i64 m.unit)∧w'.cell? ⟨K,4,none⟩=some (.slice c.ua c.au.length c.uc)) (fun w'=>True) (fun i=>false) (by kernel_rfl) (⟨e0,k4⟩) (trivial) (fun aq ah=> ?_)
     refine ay 0 aq ah ?_;refine ay 1 aq ah ?_;refine ay 2 aq ah ?_ (v:=i64 m.unit);refine ay 3 aq ah ?_;refine ay 4 aq ah ?_;refine Ai 5 aq ah ?_;refine Ai 6 aq ah ?_;refine Ai 7 aq ah ?_;refine Ai 8 aq ah ?_;refine Ai 9 aq ah ?_;refine Ai 10 aq ah ?_;refine Ai 11 aq ah ?_;refine Ai 12 aq ah ?_;refine Ai 13 aq ah ?_;refine ay 14 aq ah ?_;refine dX 15 rfl (fun Kc hK=> ?_);go_simp;refine (eF W3.drew K c s3 (false) 3 12 (Nx.o.ext (Ext.refl _).drew)).mono ?_;rintro e W4 ⟨rfl,hK4,j8⟩;refine hK.o _ _ (⟨bL (aj (Ext.refl W3).drew e0) j8 lg,(dO hK4).2.2.2.2.1⟩) (trivial) (fun aq ah=> ?_);clear hK Kc;try simp only [sS]
     refine ax (by kernel_rfl) ?_ _;clear aq ah;have xH:gY W4 K c (s3.need (decide (0≤m.unit)&&decide (m.unit<(c.au.length:Int))) 3 12):=by rw [hp];simpa using hK4
     clear hK4;have GR:=ae xH;have eY:ar K W3 W4:=((Ext.refl W3).drew.but K).trans j8;have wm:=ae eY;have PL:W4.cell? ⟨E,0,none⟩=some (i64 m.unit):=bL e0 eY lg;have Ia:Hid (W4.ownsRow D 3 1 u4 i R.flatten):=nt (bq HOW.o wL.o) eY H_;have VV:Hid (aN W4 D 3 1 u4 R):=(HO.o.ext wL.o).but eY H_;have VX:D≤W4.heap.size:=Nat.le_trans Mc.o (Nat.le_trans wL.o.size eY.size);have Ny:=ae VX;clear j8 eY xH hp jv e0 k4;go_wp2_with (at_builtin;refine aW _ rfl (.tmp 53) (.tmp 56) 22 rfl D 3 (.int .i64 0) 1 8 underlying22 Tryz.info_int rfl (by decide) u4 i R.flatten rfl ?c1 (some ⟨W4.heap.size,0,none⟩) 1 1 [i64 m.unit] rfl rfl ?c2 ?c3 ?c4 ?c5 (by decide) ?c6 ?_;rotate_right;intro v1 w5 ho he hb hz hv)
     case c1=>exact bq Ia.o ((Ext.refl _).alloc _)
     case c2=>exact fun _=>⟨_,rfl,cu W4 3 [i64 m.unit]⟩
     case c3=>intro u hu;rw [List.mem_singleton]at hu;subst hu;rfl
     case c4=>intro e;cases e
     case c5=>omega
     case c6=>have:=Ny.o;simp;omega
     have kd:=Ia.o.lt;have zU:(W4.alloc (.cells #[i64 m.unit] 3)).heap.size=W4.heap.size+1:=by simp
     have xK:gY w5 K c (s3.need (decide (0≤m.unit)&&decide (m.unit<(c.au.length:Int))) 3 12):=aJ.keep (GR.o.ext ((Ext.refl W4).alloc _)) (hb.o K (by have:=GR.o.lt;omega) (fun e=>by have:=(kd K e.symm).1;omega));have xB:aJ w5 B 87 x.cells:=aJ.keep ((CV.o.ext wL.o).but wm.o fP|>.ext ((Ext.refl W4).alloc _)) (hb.o B (by have:=Ny.o;omega) (fun e=>by have:=(kd B e.symm).1;omega));have xX:ar K V w5:=ar.append ((mS.o.trans ((wL.o.but K).trans wm.o)).alloc' _) PK.o (fun k e=>(kd k e).1) he.o hb.o hz.o;have i5:=VV.o.snoc (w':=w5) (v':=v1) (r:= [i64 m.unit]) rfl (by rw [PH.o];exact ho.o);have QL:D≤w5.heap.size:=by have:=hz.o;have:=Ny.o;omega
     have HR:=ae (And.intro xK (And.intro xX (And.intro xB (And.intro i5 QL))));clear xK xB xX i5 QL zU kd ho he hb hz hv PL;exact ⟨⟨i+1,by omega,by rw [HT.o];exact HR.o.1,HR.o.2.1,HR.o.2.2.1,by rw [VU.o];exact HR.o.2.2.2.1,HR.o.2.2.2.2,by go_num⟩,by simp only [intOf];omega⟩
   ·obtain rfl:i=x.moves.length:=by omega
    rw [List.take_length]at hk hown;obtain ⟨ra,rc,rfl,hS,-⟩:=hown.recs (by decide);have Zz:(x.moves.map fun m=> [i64 m.unit])=(x.moves.map bE.unit).map fun z=> [i64 z]:=by rw [List.map_map];rfl
    have tC:(x.moves.map fun m=> [i64 m.unit]).length=(x.moves.map bE.unit).length:=by simp
    rw [Zz]at hS;rw [tC]
    have hI:aD wr ra rc (x.moves.map bE.unit):=aD.nk hS (fun z hz=>by
     obtain ⟨m,hm,rfl⟩:=List.mem_map.1 hz;exact PC.o m hm m.unit (by simp))
    have QM:=ae (lT wr ra rc (x.moves.map bE.unit) hI);obtain ⟨s3,hs3⟩: ∃s3,s3=s2.yQ (c.au.length:Int) 3 (x.moves.map bE.unit):=⟨_,rfl⟩;rw [←hs3]at hk;have hf:=Hr.o;rw [←hs3]at hf;have Hr:=ae hf;have Eg:=ae hk;have mS:=ae hx;have CV:=ae hA
    clear hown hS hI hk hx hA hs3 hf Zz tC hD;generalize g_ (x.moves.map bE.unit)=ab at*;generalize (x.moves.map bE.unit).length=ul at*;go_wp2_with fail
    refine QM.o.mono ?_;rintro e W4 ⟨rfl,x4⟩;have h6:=eF W4 K c s3 ab 3 11 (Eg.o.ext x4);obtain ⟨s4,zU⟩: ∃s4,s4=s3.need ab 3 11:=⟨_,rfl⟩;rw [←zU]at h6;have hf:=Hr.o;rw [←zU]at hf;have Hr:=ae hf;have ZA:=ae h6;have zS:=ae (CV.o.ext x4);have qX:=ae (mS.o.trans (x4.but K))
    clear h6 zU hf x4 QM CV mS Eg;go_wp2_with fail
    refine ZA.o.mono ?_;rintro e W5 ⟨rfl,ZC,eY⟩;have GR:=ae ZC;have wm:=ae (qX.o.trans eY);have Mo:=ae (zS.o.but eY fP)
    obtain ⟨-,-,-,b3⟩:=bB.at Mo.o;clear ZC eY ZA zS qX;go_wp2_with fail
    clear b3;go_loopw [66] (fun ii wl=> ∃i:Nat,i≤x.moves.length∧gY wl K c (s4.KW (x.moves.take i))∧ar K V wl∧ii= .int .i64 i) (fun ii _=>x.moves.length-(intOf ii).toNat)
    case atStart=>exact ⟨0,Nat.zero_le _,GR.o,wm.o,rfl⟩
    case round=>
     obtain ⟨i,hi,hk,hx,rfl⟩:=hrel;clear GR wm Mo;by_cases hlt:i<x.moves.length
     ·have hE:=hx.ext HV.o cX.o
      obtain ⟨b,o,ha,c0,c1,c2⟩:=(HM.o.ext hE).moves i hlt;have HT:=ae (St.H8 s4 x.moves i hlt);generalize s4.KW (x.moves.take i)=s5 at*;obtain ⟨m,Ef⟩: ∃m,m=x.moves[i]:=⟨_,rfl⟩;rw [←Ef]at c0 c1 c2 HT;have VY:=ae hk;have GN:=ae hx
      have f_:(0:Int)≤(i:Int):=by omega
      have fU:(i:Int)<(x.moves.length:Int):=by omega
      clear hk hx hE Ef;rw [ha];go_upto_region 15 with fail
      obtain ⟨W6,Mp,x6,Z6,A6⟩:=aH wr 140 m.cells;rw [show wr.alloc (.cells #[i64 m.unit,i64 m.up,i64 m.down] 140)=W6 from Mp.symm];obtain ⟨E,lh⟩: ∃E,E=wr.heap.size:=⟨_,rfl⟩;rw [←lh]at A6⊢;have lg:E≠K:=by have:=VY.o.lt;omega
      have KR:=ae A6;have Nz:=ae (GN.o.trans (x6.but K));have gH:=ae (VY.o.ext x6);clear Mp lh Z6 A6 x6 c0 c1 c2 GN VY;obtain ⟨-,e1,e2⟩:=bE.at KR.o;go_wp2_with fail
      refine (gZ W6 K c s5 3 m.up 0 1048576 gH.o).mono ?_;rintro e W7 ⟨rfl,ZE,GS⟩;clear e1 e2;obtain ⟨-,e1,e2⟩:=bE.at (KR.o.but GS lg);go_wp2_with fail
      refine (gZ W7 K c _ 3 m.down 0 1048576 ZE).mono ?_;rintro e W8 ⟨rfl,ZF,jD⟩;have HR:=ae (And.intro ZF ((Nz.o.trans GS).trans jD));clear ZE GS ZF jD e1 e2;go_wp2_with fail
      exact ⟨⟨i+1,by omega,by rw [HT.o];exact HR.o.1,HR.o.2,by go_num⟩,by simp only [intOf];omega⟩
     ·obtain rfl:i=x.moves.length:=by omega
      rw [List.take_length,Hr.o]at hk;have HR:=ae (And.intro hk hx);clear hk hx;go_wp2_with fail
      exact bodyPost_end (v:= .tuple #[]) (by simp [results,results147,go_sem]) rfl ⟨rfl,HR.o.1,HR.o.2⟩
end Go.Proofs.YtkpngkdgphojlaaGreat
