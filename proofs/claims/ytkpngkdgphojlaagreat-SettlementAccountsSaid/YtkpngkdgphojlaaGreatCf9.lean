/- Texts of the proof. -/
import Derived.Test.YtkpngkdgphojlaaGreatCf7
set_option linter.all false
set_option maxHeartbeats 2000000
set_option maxRecDepth 100000
namespace Go.Proofs.YtkpngkdgphojlaaGreat
open Go.Proofs.Tryz
open Go.RowKit
def St.zo (s:St) (n:Int) (field:Int) (l:List Int):St:=l.foldl (fun s v=>s.need (decide (0≤v)&&decide (v<n)) field 12) s
def St.Lj (s:St) (l:List bL):St:=l.foldl (fun s m=>(s.within 3 m.up 0 1048576).within 3 m.down 0 1048576) s
def St.moves (s:St) (c:ai) (x:aY):St:=
 if((s.need (decide (x.moves.length=0)||x.bI) 3 16).need (decide ((x.moves.length:Int)≤16)) 3 8).err≠0 then(s.need (decide (x.moves.length=0)||x.bI) 3 16).need (decide ((x.moves.length:Int)≤16)) 3 8
 else(((((s.need (decide (x.moves.length=0)||x.bI) 3 16).need (decide ((x.moves.length:Int)≤16)) 3 8).zo c.aq.length 3 (x.moves.map bL.unit)).need (iP (x.moves.map bL.unit)) 3 11)).Lj x.moves
def St.lO (c:ai) (x:aY) (prev:List ByteArray) (i:Int) (s:St):St:=
 if((((s.at 6 i).name x.name prev).need (decide (x.lines.length=1)||decide (x.lines.length=2)) 1 4)).err≠0 then((s.at 6 i).name x.name prev).need (decide (x.lines.length=1)||decide (x.lines.length=2)) 1 4
 else(((((s.at 6 i).name x.name prev).need (decide (x.lines.length=1)||decide (x.lines.length=2)) 1 4).zo c.lines.length 1 x.lines).need (iP x.lines) 1 11).moves c x
def St.jb (c:ai) (s:St) (n:Nat):St:=(List.range n).foldl (fun s i=>match c.outs[i]? with|some x=>St.lO c x ((c.outs.take i).map aY.name) i s|none=>s) s
def St.outs (s:St) (c:ai):St:=St.jb c s c.outs.length
theorem St.Bc (c:ai) (s:St) (i:Nat) (h:i<c.outs.length):St.jb c s (i+1)=St.lO c c.outs[i] ((c.outs.take i).map aY.name) i (St.jb c s i):=by
 unfold St.jb;rw [List.range_succ,List.foldl_append,List.foldl_cons,List.foldl_nil,List.getElem?_eq_getElem h]
theorem St.Bd (s:St) (n f:Int) (l:List Int) (v:Int):s.zo n f (l++ [v])=(s.zo n f l).need (decide (0≤v)&&decide (v<n)) f 12:=by
 unfold St.zo;rw [List.foldl_append];rfl
theorem St.II (s:St) (n f:Int) (l:List Int) (i:Nat) (h:i<l.length):s.zo n f (l.take (i+1))=(s.zo n f (l.take i)).need (decide (0≤l[i])&&decide (l[i]<n)) f 12:=by
 rw [List.take_succ_eq_append_getElem h,St.Bd]
theorem St.IJ (s:St) (l:List bL) (i:Nat) (h:i<l.length):s.Lj (l.take (i+1))=((s.Lj (l.take i)).within 3 l[i].up 0 1048576).within 3 l[i].down 0 1048576:=by
 unfold St.Lj;rw [List.take_succ_eq_append_getElem h,List.foldl_append];rfl
theorem St.Oa (s:St) (k i:Int) (h:s.err≠0):s.at k i=s:=by unfold St.at;rw [if_neg h]
theorem St.IK (s:St) (nm:ByteArray) (prev:List ByteArray) (h:s.err≠0):s.name nm prev=s:=by
 unfold St.name;rw [St.ik _ _ _ _ h,St.om _ _ _ h]
theorem St.Be (c:ai) (x:aY) (prev:List ByteArray) (i:Int) (s:St) (h:s.err≠0):St.lO c x prev i s=s:=by
 unfold St.lO;rw [St.Oa _ _ _ h,St.IK _ _ _ h,St.ik _ _ _ _ h,if_pos h]
theorem St.Dp (c:ai) (s:St) (i n:Nat) (hi:i≤n) (h:(St.jb c s i).err≠0):St.jb c s n=St.jb c s i:=by
 induction n with
 |zero=>rw [Nat.le_zero.1 hi]
 |succ n ih=>
  by_cases q:i=n+1
  ·rw [q]
  ·have h1:=ih (by omega)
   unfold St.jb at*;rw [List.range_succ,List.foldl_append,List.foldl_cons,List.foldl_nil,h1];split
   ·rw [St.Be _ _ _ _ _ h]
   ·rfl
theorem St.Gk (s:St) (n:Int) (l:List bL) (i:Nat) (h:i<l.length):s.zo n 3 ((l.take (i+1)).map bL.unit)=(s.zo n 3 ((l.take i).map bL.unit)).need (decide (0≤l[i].unit)&&decide (l[i].unit<n)) 3 12:=by
 rw [List.take_succ_eq_append_getElem h,List.map_append];exact St.Bd _ _ _ _ _
theorem ox {w w':World} {base:Nat} {e:TypeId} {s:Nat} {v:Value} {n:Nat} {xs:List Value} {K:Nat} (h:w.ownsRow base e s v n xs) (hX:ar K w w') (hK:K<base):w'.ownsRow base e s v n xs:=by
 obtain ⟨h1,h2⟩:=h;refine ⟨h1,?_⟩;rcases h2 with h2|⟨g,cap,cur,hv,hb,hg,hr⟩
 ·exact .inl h2
 ·refine .inr ⟨g,cap,cur,hv,hb,?_,hr⟩
  rw [hX.block g (Array.getElem?_eq_some_iff.1 hg).1 (by omega)];exact hg
theorem aJ.but {w w':World} {B:Nat} {e:TypeId} {m:Nat} {v:Value} {rows:List (List Value)} {K:Nat} (h:aJ w B e m v rows) (x:ar K w w') (hK:K<B):aJ w' B e m v rows:=⟨ox h.own x hK,h.len⟩
theorem aQ.keep {w w':World} {b:Nat} {T:TypeId} {vs:List Value} (h:aQ w b T vs) (e:w'.heap[b]?=w.heap[b]?):aQ w' b T vs:=by
 unfold aQ;rw [e];exact h
theorem ar.append {K:Nat} {V w w':World} {base:Nat} {v:Value} (h:ar K V w) (hV:V.heap.size≤base) (hown: ∀k,v.ownBlock=some k→base≤k) (he: ∀a0,Ext a0 w→a0.heap.size≤base→Ext a0 w') (hb: ∀k,k<w.heap.size→some k≠v.ownBlock→w'.heap[k]?=w.heap[k]?) (hz:w.heap.size≤w'.heap.size):ar K V w':=by
 have h0:Ext {w with heap:= #[]} w:=⟨⟨rfl,rfl,rfl,Nat.zero_le _,fun k hk=>absurd hk (Nat.not_lt_zero _)⟩,Nat.le_refl _⟩;have h1:=he _ h0 (Nat.zero_le _);refine ⟨h1.below.os.trans h.os,h1.below.tape.trans h.tape,h1.below.output.trans h.output,Nat.le_trans h.drawn h1.drawn,Nat.le_trans h.size hz,fun k hk hkK=> ?_⟩;have hs:=h.size;rw [hb k (by omega) (fun e=>by have:=hown k e.symm;omega)];exact h.block k hk hkK
theorem Lk (w0 V:World) (K:Nat) (c:ai) (s:St) (x:aY) (hK:w0.heap.size≤K) (hV:Ext w0 V) (A9:c.aq.length≤9223372036854775807) (hm:bH w0 3 x.ma x.mc (x.moves.map bL.cells)) (UT: ∀m∈x.moves,eI [m.unit,m.up,m.down]) (h:iN V K c s):
 Calls prog 147 #[.pointer (some ⟨K,0,none⟩),.agg #[.string x.name,.slice x.la x.lines.length x.lc,.bool x.bI,.slice x.ma x.moves.length x.mc]] V fun e' w'=>mq V K c (s.moves c x) e' w':=by
 have KF:=h.lt;have hle:=hm.le;have dQ:=hm.cap
 rw [List.length_map]at hle;have HV:=ae hV;have HM:=ae hm;have Ws:=ae UT;have df:=ae hK;have Bf:=ae A9;have HH:=ae h
 obtain ⟨s1,hs1⟩: ∃s1,s.need (decide (x.moves.length=0)||x.bI) 3 16=s1:=⟨_,rfl⟩;obtain ⟨s2,hs2⟩: ∃s2,s1.need (decide ((x.moves.length:Int)≤16)) 3 8=s2:=⟨_,rfl⟩;unfold St.moves;rw [hs1,hs2];obtain ⟨sf,P_⟩: ∃sf,(if s2.err≠0 then s2 else((s2.zo c.aq.length 3 (x.moves.map bL.unit)).need (iP (x.moves.map bL.unit)) 3 11).Lj x.moves)=sf:=⟨_,rfl⟩;rw [P_];have IC:=ae P_;have zi:=ae hs1;have Aw:=ae hs2
 have WG:Hid (s2.err=0→x.moves.length≤16):=fun h0=>by
  rw [←hs2]at h0;have:=(St.zh (by decide) h0).2;rw [decide_eq_true_eq]at this;omega
 clear hs1 hs2 P_ h hm UT hV hK A9;go_enter func147,ntmps147
 go_upto_region 1 with fail
 obtain ⟨W,hW,x0,Z0,A0⟩:=aX V 87 x.cells;rw [show V.alloc (.cells #[.string x.name,.slice x.la x.lines.length x.lc,.bool x.bI,.slice x.ma x.moves.length x.mc] 87)=W from hW.symm];clear hW;obtain ⟨B,hB⟩: ∃B,B=V.heap.size:=⟨_,rfl⟩;rw [←hB]at A0⊢;have gQ:B≠K:=by omega
 have Ax:=ae A0;have pZ:=ae x0;have EN:=ae hB
 clear hB Z0 A0 x0;go_upto_region 1 with fail
 go_cut [] (fun wx=>iN wx K c s1∧ar K W wx∧aQ wx B 87 x.cells)
 case first=>
  as_aux_lemma=>
   obtain ⟨b0,b1,b2,b3⟩:=aY.at Ax.o
   have HN:Hid (∀ok,ok=(decide (x.moves.length=0)||x.bI)→Calls prog 134 #[.pointer (some ⟨K,0,none⟩),.bool ok,i64 3,i64 16] W fun e' w'=>mq W K c s1 e' w'):=fun ok pY=>by
    have h5:=eT W K c s ok 3 16 (HH.o.ext pZ.o);rw [pY,zi.o]at h5;rw [pY];exact h5
   by_cases q:x.moves.length=0
   ·have t:((x.moves.length:Int)==0)=true:=by rw [q];rfl
    have HQ:Hid (true=(decide (x.moves.length=0)||x.bI)):=by show _=_;rw [q];simp
    clear q;go_wp2_with fail
    refine (HN.o true HQ.o).mono ?_;rintro e w2 ⟨rfl,hk,hx⟩;have HR:=ae (And.intro hk (And.intro hx (Ax.o.but hx gQ)));clear hk hx b0 b1 b2 b3 t;go_wp2_with fail
    go_meet
    exact HR.o
   ·have t:((x.moves.length:Int)==0)=false:=by rw [beq_eq_false_iff_ne];omega
    have HQ:Hid (x.bI=(decide (x.moves.length=0)||x.bI)):=by
     show _=_;have:decide (x.moves.length=0)=false:=decide_eq_false q;rw [this,Bool.false_or]
    clear q;go_wp2_with fail
    refine (HN.o x.bI HQ.o).mono ?_;rintro e w2 ⟨rfl,hk,hx⟩;have HR:=ae (And.intro hk (And.intro hx (Ax.o.but hx gQ)));clear hk hx b0 b1 b2 b3 t;go_wp2_with fail
    go_meet
    exact HR.o
 case rest=>
  obtain ⟨hk,hx,hA⟩:=hcut;generalize wc=W1 at*;have mi:=ae hA;have eE:Hid (ar K V W1):=(pZ.o.but K).trans hx
  have h5:=eT W1 K c s1 (decide ((x.moves.length:Int)≤16)) 3 8 hk;rw [Aw.o]at h5;have yj:=ae h5;obtain ⟨b0,b1,b2,b3⟩:=aY.at mi.o;clear hk hx hA h5 Ax pZ;go_wp2_with fail
  refine yj.o.mono ?_;rintro e W2 ⟨rfl,hK2,hx2⟩;clear b0 b1 b2 b3;have sq:=ae (mi.o.but hx2 gQ);have ez:=ae (eE.o.trans hx2);have ve:=ae hK2;obtain ⟨-,-,-,Ra,-⟩:=oh hK2;clear hx2 hK2 mi eE yj;by_cases h0:s2.err=0
  rotate_left
  ·have t1:(s2.err !=0)=true:=by simpa using h0
   have hf:=IC.o;rw [if_pos h0]at hf;have HR:Hid (iN W2 K c sf):=by show iN _ _ _ _;rw [←hf];exact ve.o
   clear h0 hf;go_wp2_with fail
   exact bodyPost_ret (v:= .tuple #[]) (by simp [results,results147,go_sem]) rfl ⟨rfl,HR.o,ez.o⟩
  have t1:(s2.err !=0)=false:=by simpa using h0
  have h16:=WG.o h0;have hf:=IC.o;rw [if_neg (fun e=>e h0)]at hf;have IC:=ae hf;clear h0 hf;obtain ⟨b0,b1,b2,b3⟩:=aY.at sq.o;have hBl:B<W2.heap.size:=sq.o.lt;have IL:K<W2.heap.size:=ve.o.lt;obtain ⟨D,hD⟩: ∃D,D=W2.heap.size:=⟨_,rfl⟩;rw [←hD]at hBl IL;have HD:=ae hD;have Qf:Hid (V.heap.size≤D):=by show _≤_;rw [hD];exact ez.o.size
  clear hD;go_wp2_with fail
  clear b0 b1 b2 b3 t1 Ra;go_loopw [4,33] (fun v ii wr=> ∃i:Nat,i≤x.moves.length∧iN wr K c (s2.zo c.aq.length 3 ((x.moves.take i).map bL.unit))∧ar K V wr∧aQ wr B 87 x.cells∧aJ wr D 3 1 v ((x.moves.take i).map fun m=> [i64 m.unit])∧D≤wr.heap.size∧ii= .int .i64 i) (fun _ ii _=>x.moves.length-(intOf ii).toNat)
  case atStart=>exact ⟨0,Nat.zero_le _,ve.o,ez.o,sq.o,aJ.nil _ _ _ _,by rw [HD.o];exact Nat.le_refl _,rfl⟩
  case round=>
   obtain ⟨i,hi,hk,hx,hA,hown,hD,rfl⟩:=hrel;clear ve ez sq;by_cases hlt:i<x.moves.length
   ·have hE:=hx.ext HV.o df.o
    obtain ⟨b,o,ha,c0,c1,c2⟩:=(HM.o.ext hE).moves i hlt;have HT:=ae (St.Gk s2 (c.aq.length:Int) x.moves i hlt);have Qg:Hid ((x.moves.take (i+1)).map (fun m=> [i64 m.unit])=(x.moves.take i).map (fun m=> [i64 m.unit])++ [[i64 x.moves[i].unit]]):=by show _=_;rw [List.take_succ_eq_append_getElem hlt,List.map_append];rfl
    have Rm:((x.moves.take i).map (fun m=> [i64 m.unit])).length=i:=by simp;omega
    have Qh:=ae Rm;generalize s2.zo (c.aq.length:Int) 3 ((x.moves.take i).map bL.unit)=s3 at*;generalize (x.moves.take i).map (fun m=> [i64 m.unit])=R at*;obtain ⟨m,KH⟩: ∃m,m=x.moves[i]:=⟨_,rfl⟩;rw [←KH]at c0 c1 c2 HT Qg
    have HOW:Hid (wr.ownsRow D 3 1 u4 i R.flatten):=by
     have h5:=hown.own;rw [Rm]at h5;exact h5
    have HO:=ae hown;have Bg:=ae hk;have kX:=ae hx;have Dn:=ae hA;have P8:=ae hD
    have jS:(0:Int)≤(i:Int):=by omega
    have jI:(i:Int)<(x.moves.length:Int):=by omega
    clear hown hk hx hA hE hD KH Rm;rw [ha];go_upto_region 8 with fail
    obtain ⟨W3,hW3,x3,Z3,A3⟩:=aX wr 140 m.cells;rw [show wr.alloc (.cells #[i64 m.unit,i64 m.up,i64 m.down] 140)=W3 from hW3.symm];obtain ⟨E,nP⟩: ∃E,E=wr.heap.size:=⟨_,rfl⟩;rw [←nP]at A3⊢;have mC:E≠K:=by have:=Bg.o.lt;omega
    have e0:W3.cell? ⟨E,0,none⟩=some (i64 m.unit):=(A3.cell 0).trans rfl;have Li:=ae A3;have xd:=ae x3
    have Ob:=ae (Bg.o.ext x3);obtain ⟨-,-,-,-,k4,-⟩:=eC Ob.o;have A9:=Bf.o;clear hW3 nP Z3 A3 x3 c0 c1 c2;rcases Bool.eq_false_or_eq_true (decide (0≤m.unit))with hp|hp
    ·refine aL (fun w'=>w'.cell? ⟨E,0,none⟩=some (i64 m.unit)∧w'.cell? ⟨K,4,none⟩=some (.slice c.ua c.aq.length c.uc)) (fun w'=>True) (fun i=>false) (by kernel_rfl) (⟨e0,k4⟩) (trivial) (fun ay ah=> ?_)
     refine aF 0 ay ah ?_;refine aF 1 ay ah ?_;refine aF 2 ay ah ?_ (v:=i64 m.unit);refine aF 3 ay ah ?_;refine aF 4 ay ah ?_;refine aF 5 ay ah ?_;refine aF 6 ay ah ?_ (v:=i64 m.unit);refine aF 7 ay ah ?_;refine aF 8 ay ah ?_;refine aF 9 ay ah ?_;refine aF 10 ay ah ?_;refine aF 11 ay ah ?_;refine aF 12 ay ah ?_ (v:= .int .i64 (c.aq.length:Int));refine aF 13 ay ah ?_ (v:= .bool (decide (m.unit<(c.aq.length:Int))));refine aF 14 ay ah ?_ (v:= .bool (decide (m.unit<(c.aq.length:Int))));refine fp 15 rfl (fun Kc hK=> ?_);go_simp;refine (eT W3.drew K c s3 (decide (m.unit<(c.aq.length:Int))) 3 12 (Ob.o.ext (Ext.refl _).drew)).mono ?_;rintro e W4 ⟨rfl,hK4,fl⟩;refine hK.o _ _ (⟨cK (ak (Ext.refl W3).drew e0) fl mC,(eC hK4).2.2.2.2.1⟩) (trivial) (fun ay ah=> ?_);clear hK Kc;try simp only [sS]
     refine aD (by kernel_rfl) ?_ _;clear ay ah;have yl:iN W4 K c (s3.need (decide (0≤m.unit)&&decide (m.unit<(c.aq.length:Int))) 3 12):=by rw [hp];simpa using hK4
     clear hK4;have HJ:=ae yl;have dY:ar K W3 W4:=((Ext.refl W3).drew.but K).trans fl;have vp:=ae dY;have Qi:W4.cell? ⟨E,0,none⟩=some (i64 m.unit):=cK e0 dY mC;have IM:Hid (W4.ownsRow D 3 1 u4 i R.flatten):=ox (bW HOW.o xd.o) dY IL;have WH:Hid (aJ W4 D 3 1 u4 R):=(HO.o.ext xd.o).but dY IL;have WI:D≤W4.heap.size:=Nat.le_trans P8.o (Nat.le_trans xd.o.size dY.size);have Oc:=ae WI;clear fl dY yl hp A9 e0 k4;go_wp2_with (at_builtin;refine bn _ rfl (.tmp 53) (.tmp 56) 22 rfl D 3 (.int .i64 0) 1 8 underlying22 Tryz.info_int rfl (by decide) u4 i R.flatten rfl ?c1 (some ⟨W4.heap.size,0,none⟩) 1 1 [i64 m.unit] rfl rfl ?c2 ?c3 ?c4 ?c5 (by decide) ?c6 ?_;rotate_right;intro v1 w5 ho he hb hz hv)
     case c1=>exact bW IM.o ((Ext.refl _).alloc _)
     case c2=>exact fun _=>⟨_,rfl,dD W4 3 [i64 m.unit]⟩
     case c3=>intro u hu;rw [List.mem_singleton]at hu;subst hu;rfl
     case c4=>intro e;cases e
     case c5=>omega
     case c6=>have:=Oc.o;simp;omega
     have na:=IM.o.lt;have AD:(W4.alloc (.cells #[i64 m.unit] 3)).heap.size=W4.heap.size+1:=by simp
     have xK:iN w5 K c (s3.need (decide (0≤m.unit)&&decide (m.unit<(c.aq.length:Int))) 3 12):=aQ.keep (HJ.o.ext ((Ext.refl W4).alloc _)) (hb.o K (by have:=HJ.o.lt;omega) (fun e=>by have:=(na K e.symm).1;omega));have xB:aQ w5 B 87 x.cells:=aQ.keep ((Dn.o.ext xd.o).but vp.o gQ|>.ext ((Ext.refl W4).alloc _)) (hb.o B (by have:=Oc.o;omega) (fun e=>by have:=(na B e.symm).1;omega));have xX:ar K V w5:=ar.append ((kX.o.trans ((xd.o.but K).trans vp.o)).alloc' _) Qf.o (fun k e=>(na k e).1) he.o hb.o hz.o;have kF:=WH.o.snoc (w':=w5) (v':=v1) (r:= [i64 m.unit]) rfl (by rw [Qh.o];exact ho.o);have Rn:D≤w5.heap.size:=by have:=hz.o;have:=Oc.o;omega
     have HR:=ae (And.intro xK (And.intro xX (And.intro xB (And.intro kF Rn))));clear xK xB xX kF Rn AD na ho he hb hz hv Qi;exact ⟨⟨i+1,by omega,by rw [HT.o];exact HR.o.1,HR.o.2.1,HR.o.2.2.1,by rw [Qg.o];exact HR.o.2.2.2.1,HR.o.2.2.2.2,by go_num⟩,by simp only [intOf];omega⟩
    ·refine aL (fun w'=>w'.cell? ⟨E,0,none⟩=some (i64 m.unit)∧w'.cell? ⟨K,4,none⟩=some (.slice c.ua c.aq.length c.uc)) (fun w'=>True) (fun i=>false) (by kernel_rfl) (⟨e0,k4⟩) (trivial) (fun ay ah=> ?_)
     refine aF 0 ay ah ?_;refine aF 1 ay ah ?_;refine aF 2 ay ah ?_ (v:=i64 m.unit);refine aF 3 ay ah ?_;refine aF 4 ay ah ?_;refine AP 5 ay ah ?_;refine AP 6 ay ah ?_;refine AP 7 ay ah ?_;refine AP 8 ay ah ?_;refine AP 9 ay ah ?_;refine AP 10 ay ah ?_;refine AP 11 ay ah ?_;refine AP 12 ay ah ?_;refine AP 13 ay ah ?_;refine aF 14 ay ah ?_;refine fp 15 rfl (fun Kc hK=> ?_);go_simp;refine (eT W3.drew K c s3 (false) 3 12 (Ob.o.ext (Ext.refl _).drew)).mono ?_;rintro e W4 ⟨rfl,hK4,fl⟩;refine hK.o _ _ (⟨cK (ak (Ext.refl W3).drew e0) fl mC,(eC hK4).2.2.2.2.1⟩) (trivial) (fun ay ah=> ?_);clear hK Kc;try simp only [sS]
     refine aD (by kernel_rfl) ?_ _;clear ay ah;have yl:iN W4 K c (s3.need (decide (0≤m.unit)&&decide (m.unit<(c.aq.length:Int))) 3 12):=by rw [hp];simpa using hK4
     clear hK4;have HJ:=ae yl;have dY:ar K W3 W4:=((Ext.refl W3).drew.but K).trans fl;have vp:=ae dY;have Qi:W4.cell? ⟨E,0,none⟩=some (i64 m.unit):=cK e0 dY mC;have IM:Hid (W4.ownsRow D 3 1 u4 i R.flatten):=ox (bW HOW.o xd.o) dY IL;have WH:Hid (aJ W4 D 3 1 u4 R):=(HO.o.ext xd.o).but dY IL;have WI:D≤W4.heap.size:=Nat.le_trans P8.o (Nat.le_trans xd.o.size dY.size);have Oc:=ae WI;clear fl dY yl hp A9 e0 k4;go_wp2_with (at_builtin;refine bn _ rfl (.tmp 53) (.tmp 56) 22 rfl D 3 (.int .i64 0) 1 8 underlying22 Tryz.info_int rfl (by decide) u4 i R.flatten rfl ?c1 (some ⟨W4.heap.size,0,none⟩) 1 1 [i64 m.unit] rfl rfl ?c2 ?c3 ?c4 ?c5 (by decide) ?c6 ?_;rotate_right;intro v1 w5 ho he hb hz hv)
     case c1=>exact bW IM.o ((Ext.refl _).alloc _)
     case c2=>exact fun _=>⟨_,rfl,dD W4 3 [i64 m.unit]⟩
     case c3=>intro u hu;rw [List.mem_singleton]at hu;subst hu;rfl
     case c4=>intro e;cases e
     case c5=>omega
     case c6=>have:=Oc.o;simp;omega
     have na:=IM.o.lt;have AD:(W4.alloc (.cells #[i64 m.unit] 3)).heap.size=W4.heap.size+1:=by simp
     have xK:iN w5 K c (s3.need (decide (0≤m.unit)&&decide (m.unit<(c.aq.length:Int))) 3 12):=aQ.keep (HJ.o.ext ((Ext.refl W4).alloc _)) (hb.o K (by have:=HJ.o.lt;omega) (fun e=>by have:=(na K e.symm).1;omega));have xB:aQ w5 B 87 x.cells:=aQ.keep ((Dn.o.ext xd.o).but vp.o gQ|>.ext ((Ext.refl W4).alloc _)) (hb.o B (by have:=Oc.o;omega) (fun e=>by have:=(na B e.symm).1;omega));have xX:ar K V w5:=ar.append ((kX.o.trans ((xd.o.but K).trans vp.o)).alloc' _) Qf.o (fun k e=>(na k e).1) he.o hb.o hz.o;have kF:=WH.o.snoc (w':=w5) (v':=v1) (r:= [i64 m.unit]) rfl (by rw [Qh.o];exact ho.o);have Rn:D≤w5.heap.size:=by have:=hz.o;have:=Oc.o;omega
     have HR:=ae (And.intro xK (And.intro xX (And.intro xB (And.intro kF Rn))));clear xK xB xX kF Rn AD na ho he hb hz hv Qi;exact ⟨⟨i+1,by omega,by rw [HT.o];exact HR.o.1,HR.o.2.1,HR.o.2.2.1,by rw [Qg.o];exact HR.o.2.2.2.1,HR.o.2.2.2.2,by go_num⟩,by simp only [intOf];omega⟩
   ·obtain rfl:i=x.moves.length:=by omega
    rw [List.take_length]at hk hown;obtain ⟨ra,rc,rfl,hS,-⟩:=hown.recs (by decide);have hSl:(x.moves.map fun m=> [i64 m.unit])=(x.moves.map bL.unit).map fun z=> [i64 z]:=by rw [List.map_map];rfl
    have pJ:(x.moves.map fun m=> [i64 m.unit]).length=(x.moves.map bL.unit).length:=by simp
    rw [hSl]at hS;rw [pJ]
    have hI:aI wr ra rc (x.moves.map bL.unit):=aI.ov hS (fun z hz=>by
     obtain ⟨m,hm,rfl⟩:=List.mem_map.1 hz;exact Ws.o m hm m.unit (by simp))
    have Ro:=ae (mX wr ra rc (x.moves.map bL.unit) hI);obtain ⟨s3,hs3⟩: ∃s3,s3=s2.zo (c.aq.length:Int) 3 (x.moves.map bL.unit):=⟨_,rfl⟩;rw [←hs3]at hk;have hf:=IC.o;rw [←hs3]at hf;have IC:=ae hf;have Bg:=ae hk;have kX:=ae hx;have Dn:=ae hA
    clear hown hS hI hk hx hA hs3 hf hSl pJ hD;generalize iP (x.moves.map bL.unit)=ab at*;generalize (x.moves.map bL.unit).length=ul at*;go_wp2_with fail
    refine Ro.o.mono ?_;rintro e W4 ⟨rfl,x4⟩;have h6:=eT W4 K c s3 ab 3 11 (Bg.o.ext x4);obtain ⟨s4,AD⟩: ∃s4,s4=s3.need ab 3 11:=⟨_,rfl⟩;rw [←AD]at h6;have hf:=IC.o;rw [←AD]at hf;have IC:=ae hf;have HN4:=ae h6;have um:=ae (Dn.o.ext x4);have qI:=ae (kX.o.trans (x4.but K))
    clear h6 AD hf x4 Ro Dn kX Bg;go_wp2_with fail
    refine HN4.o.mono ?_;rintro e W5 ⟨rfl,hk5,dY⟩;have HJ:=ae hk5;have vp:=ae (qI.o.trans dY);have ym:=ae (um.o.but dY gQ)
    obtain ⟨-,-,-,b3⟩:=aY.at ym.o;clear hk5 dY HN4 um qI;go_wp2_with fail
    clear b3;go_loopw [66] (fun ii wl=> ∃i:Nat,i≤x.moves.length∧iN wl K c (s4.Lj (x.moves.take i))∧ar K V wl∧ii= .int .i64 i) (fun ii _=>x.moves.length-(intOf ii).toNat)
    case atStart=>exact ⟨0,Nat.zero_le _,HJ.o,vp.o,rfl⟩
    case round=>
     obtain ⟨i,hi,hk,hx,rfl⟩:=hrel;clear HJ vp ym;by_cases hlt:i<x.moves.length
     ·have hE:=hx.ext HV.o df.o
      obtain ⟨b,o,ha,c0,c1,c2⟩:=(HM.o.ext hE).moves i hlt;have HT:=ae (St.IJ s4 x.moves i hlt);generalize s4.Lj (x.moves.take i)=s5 at*;obtain ⟨m,KH⟩: ∃m,m=x.moves[i]:=⟨_,rfl⟩;rw [←KH]at c0 c1 c2 HT;have WJ:=ae hk;have Ay:=ae hx
      have jS:(0:Int)≤(i:Int):=by omega
      have jI:(i:Int)<(x.moves.length:Int):=by omega
      clear hk hx hE KH;rw [ha];go_upto_region 15 with fail
      obtain ⟨W6,MZ,x6,Z6,A6⟩:=aX wr 140 m.cells;rw [show wr.alloc (.cells #[i64 m.unit,i64 m.up,i64 m.down] 140)=W6 from MZ.symm];obtain ⟨E,nP⟩: ∃E,E=wr.heap.size:=⟨_,rfl⟩;rw [←nP]at A6⊢;have mC:E≠K:=by have:=WJ.o.lt;omega
      have Li:=ae A6;have Od:=ae (Ay.o.trans (x6.but K));have gP:=ae (WJ.o.ext x6);clear MZ nP Z6 A6 x6 c0 c1 c2 Ay WJ;obtain ⟨-,e1,e2⟩:=bL.at Li.o;go_wp2_with fail
      refine (iO W6 K c s5 3 m.up 0 1048576 gP.o).mono ?_;rintro e W7 ⟨rfl,hk7,nZ⟩;clear e1 e2;obtain ⟨-,e1,e2⟩:=bL.at (Li.o.but nZ mC);go_wp2_with fail
      refine (iO W7 K c _ 3 m.down 0 1048576 hk7).mono ?_;rintro e W8 ⟨rfl,hk8,g_⟩;have HR:=ae (And.intro hk8 ((Od.o.trans nZ).trans g_));clear hk7 nZ hk8 g_ e1 e2;go_wp2_with fail
      exact ⟨⟨i+1,by omega,by rw [HT.o];exact HR.o.1,HR.o.2,by go_num⟩,by simp only [intOf];omega⟩
     ·obtain rfl:i=x.moves.length:=by omega
      rw [List.take_length,IC.o]at hk;have HR:=ae (And.intro hk hx);clear hk hx;go_wp2_with fail
      exact bodyPost_end (v:= .tuple #[]) (by simp [results,results147,go_sem]) rfl ⟨rfl,HR.o.1,HR.o.2⟩
end Go.Proofs.YtkpngkdgphojlaaGreat
