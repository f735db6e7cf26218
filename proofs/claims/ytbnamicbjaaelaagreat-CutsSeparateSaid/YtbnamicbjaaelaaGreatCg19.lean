/- Texts of the proof. -/
import Derived.Test.YtbnamicbjaaelaaGreatCg16
set_option linter.all false
set_option maxHeartbeats 2000000
set_option maxRecDepth 100000
namespace Go.Proofs.YtbnamicbjaaelaaGreat
open Go.Proofs.Tryz
open Go.RowKit
def St.BJ (s:St) (n:Int) (field:Int) (l:List Int):St:=l.foldl (λs v=>s.need (decide (0<=v)&&decide (v<n)) field 12) s
def St.Oy (s:St) (l:List cj):St:=l.foldl (λs m=>(s.within 3 m.up 0 1048576).within 3 m.down 0 1048576) s
def St.moves (s:St) (c:ay) (x:cJ):St:=
 if((s.need (decide (x.moves.length=0)||x.cd) 3 16).need (decide ((x.moves.length:Int)<=16)) 3 8).err≠0 then(s.need (decide (x.moves.length=0)||x.cd) 3 16).need (decide ((x.moves.length:Int)<=16)) 3 8
 else(((((s.need (decide (x.moves.length=0)||x.cd) 3 16).need (decide ((x.moves.length:Int)<=16)) 3 8).BJ c.aA.length 3 (x.moves.map cj.unit)).need (iY (x.moves.map cj.unit)) 3 11)).Oy x.moves
def St.lZ (c:ay) (x:cJ) (prev:List ByteArray) (i:Int) (s:St):St:=
 if((((s.at 6 i).name x.name prev).need (decide (x.lines.length=1)||decide (x.lines.length=2)) 1 4)).err≠0 then((s.at 6 i).name x.name prev).need (decide (x.lines.length=1)||decide (x.lines.length=2)) 1 4
 else(((((s.at 6 i).name x.name prev).need (decide (x.lines.length=1)||decide (x.lines.length=2)) 1 4).BJ c.lines.length 1 x.lines).need (iY x.lines) 1 11).moves c x
def St.jh (c:ay) (s:St) (n:Nat):St:=(List.range n).foldl (λs i=>match c.outs[i]? with|some x=>St.lZ c x ((c.outs.take i).map cJ.name) i s|none=>s) s
def St.outs (s:St) (c:ay):St:=St.jh c s c.outs.length
theorem St.DC (c:ay) (s:St) (i:Nat) (h:i<c.outs.length):St.jh c s (i+1)=St.lZ c c.outs[i] ((c.outs.take i).map cJ.name) i (St.jh c s i):=by
 unfold St.jh;rw [List.range_succ,List.foldl_append,List.foldl_cons,List.foldl_nil,List.getElem?_eq_getElem h]
theorem St.DD (s:St) (n f:Int) (l:List Int) (v:Int):s.BJ n f (l++ [v])=(s.BJ n f l).need (decide (0<=v)&&decide (v<n)) f 12:=by
 unfold St.BJ;rw [List.foldl_append];rfl
theorem St.LU (s:St) (n f:Int) (l:List Int) (i:Nat) (h:i<l.length):s.BJ n f (l.take (i+1))=(s.BJ n f (l.take i)).need (decide (0<=l[i])&&decide (l[i]<n)) f 12:=by
 rw [List.take_succ_eq_append_getElem h,St.DD]
theorem St.LV (s:St) (l:List cj) (i:Nat) (h:i<l.length):s.Oy (l.take (i+1))=((s.Oy (l.take i)).within 3 l[i].up 0 1048576).within 3 l[i].down 0 1048576:=by
 unfold St.Oy;rw [List.take_succ_eq_append_getElem h,List.foldl_append];rfl
theorem St.RN (s:St) (k i:Int) (h:s.err≠0):s.at k i=s:=by unfold St.at;rw [if_neg h]
theorem St.LW (s:St) (nm:ByteArray) (prev:List ByteArray) (h:s.err≠0):s.name nm prev=s:=by
 unfold St.name;rw [St.iy _ _ _ _ h,St.oO _ _ _ h]
theorem St.DF (c:ay) (x:cJ) (prev:List ByteArray) (i:Int) (s:St) (h:s.err≠0):St.lZ c x prev i s=s:=by
 unfold St.lZ;rw [St.RN _ _ _ h,St.LW _ _ _ h,St.iy _ _ _ _ h,if_pos h]
theorem St.FY (c:ay) (s:St) (i n:Nat) (hi:i<=n) (h:(St.jh c s i).err≠0):St.jh c s n=St.jh c s i:=by
 induction n with
 |zero=>rw [Nat.le_zero.1 hi]
 |succ n ih=>
  by_cases q:i=n+1
  .rw [q]
  .have h1:=ih ae
   unfold St.jh at*;rw [List.range_succ,List.foldl_append,List.foldl_cons,List.foldl_nil,h1];split
   .rw [St.DF _ _ _ _ _ h]
   .rfl
theorem St.Ji (s:St) (n:Int) (l:List cj) (i:Nat) (h:i<l.length):s.BJ n 3 ((l.take (i+1)).map cj.unit)=(s.BJ n 3 ((l.take i).map cj.unit)).need (decide (0<=l[i].unit)&&decide (l[i].unit<n)) 3 12:=by
 rw [List.take_succ_eq_append_getElem h,List.map_append];exact St.DD _ _ _ _ _
theorem oY {w w':World} {base:Nat} {e:TypeId} {s:Nat} {v:Value} {n:Nat} {xs:List Value} {K:Nat} (h:w.ownsRow base e s v n xs) (hX:aB K w w') (hK:K<base):w'.ownsRow base e s v n xs:=by
 obtain ⟨h1,h2⟩:=h;refine ⟨h1,?_⟩;rcases h2 with h2|⟨g,cap,cur,hv,hb,hg,hr⟩
 .exact .inl h2
 .refine .inr ⟨g,cap,cur,hv,hb,?_,hr⟩
  rw [hX.block g (Array.getElem?_eq_some_iff.1 hg).1 ae];exact hg
theorem aL.but {w w':World} {B:Nat} {e:TypeId} {m:Nat} {v:Value} {rows:List (List Value)} {K:Nat} (h:aL w B e m v rows) (x:aB K w w') (hK:K<B):aL w' B e m v rows:=⟨oY h.own x hK,h.len⟩
theorem aT.keep {w w':World} {b:Nat} {T:TypeId} {vs:List Value} (h:aT w b T vs) (e:w'.heap[b]?=w.heap[b]?):aT w' b T vs:=by
 unfold aT;rw [e];exact h
theorem aB.append {K:Nat} {V w w':World} {base:Nat} {v:Value} (h:aB K V w) (hV:V.heap.size<=base) (hown: ∀k,v.ownBlock=some k->base<=k) (he: ∀a0,Ext a0 w->a0.heap.size<=base->Ext a0 w') (hb: ∀k,k<w.heap.size->some k≠v.ownBlock->w'.heap[k]?=w.heap[k]?) (hz:w.heap.size<=w'.heap.size):aB K V w':=by
 have h0:Ext {w with heap:= #[]} w:=⟨⟨rfl,rfl,rfl,aZ,λk hk=>absurd hk (Nat.not_lt_zero _)⟩,bY⟩;have h1:=he _ h0 aZ;refine ⟨h1.below.os.trans h.os,h1.below.tape.trans h.tape,h1.below.output.trans h.output,Nat.le_trans h.drawn h1.drawn,Nat.le_trans h.size hz,λk hk hkK=> ?_⟩;have hs:=h.size;rw [hb k ae (λe=>bA (hown k e.symm))];exact h.block k hk hkK
theorem Oz (w0 V:World) (K:Nat) (c:ay) (s:St) (x:cJ) (hK:w0.heap.size<=K) (hV:Ext w0 V) (ue:c.aA.length<=9223372036854775807) (hm:ct w0 3 x.ma x.mc (x.moves.map cj.cells)) (Ys: ∀m∈x.moves,gO [m.unit,m.up,m.down]) (h:iW V K c s):
 Calls prog 127 #[.pointer (some ⟨K,0,none⟩),.agg #[.string x.name,.slice x.la x.lines.length x.lc,.bool x.cd,.slice x.ma x.moves.length x.mc]] V λe' w'=>mI V K c (s.moves c x) e' w':=by
 have Nq:=h.lt;have hle:=hm.le;have dS:=hm.cap
 rw [List.length_map]at hle;have HV:=ah hV;have HM:=ah hm;have HMI:=ah Ys;have dN:=ah hK;have BK:=ah ue;have HH:=ah h
 obtain ⟨s1,hs1⟩: ∃s1,s.need (decide (x.moves.length=0)||x.cd) 3 16=s1:=⟨_,rfl⟩;obtain ⟨s2,hs2⟩: ∃s2,s1.need (decide ((x.moves.length:Int)<=16)) 3 8=s2:=⟨_,rfl⟩;unfold St.moves;rw [hs1,hs2];obtain ⟨sf,Tq⟩: ∃sf,(if s2.err≠0 then s2 else((s2.BJ c.aA.length 3 (x.moves.map cj.unit)).need (iY (x.moves.map cj.unit)) 3 11).Oy x.moves)=sf:=⟨_,rfl⟩;rw [Tq];have LF:=ah Tq;have FO:=ah hs1;have zT:=ah hs2
 have aa3:Hid (s2.err=0->x.moves.length<=16):=λh0=>by
  rw [<-hs2]at h0;have:=(St.Bx aq h0).2;rw [decide_eq_true_eq]at this;omega
 clear hs1 hs2 Tq h hm Ys hV hK ue;go_enter func127,ntmps127
 go_upto_region 1 with fail
 obtain ⟨W,hW,x0,Z0,A0⟩:=aV V 75 x.cells;rw [show V.alloc (.cells #[.string x.name,.slice x.la x.lines.length x.lc,.bool x.cd,.slice x.ma x.moves.length x.mc] 75)=W from hW.symm];clear hW;obtain ⟨B,hB⟩: ∃B,B=V.heap.size:=⟨_,rfl⟩;rw [<-hB]at A0⊢;have gZ:B≠K:=ae;have Cm:=ah A0;have tK:=ah x0;have qB:=ah hB
 clear hB Z0 A0 x0;go_upto_region 1 with fail
 go_cut [] (λwx=>iW wx K c s1/\aB K W wx/\aT wx B 75 x.cells)
 case first=>
  as_aux_lemma=>
   obtain ⟨b0,b1,b2,b3⟩:=cJ.at Cm.o
   have HN:Hid (∀ok,ok=(decide (x.moves.length=0)||x.cd)->Calls prog 114 #[.pointer (some ⟨K,0,none⟩),.bool ok,i64 3,i64 16] W λe' w'=>mI W K c s1 e' w'):=λok gA=>by
    have h5:=fH W K c s ok 3 16 (HH.o.ext tK.o);rw [gA,FO.o]at h5;rw [gA];exact h5
   by_cases q:x.moves.length=0
   .have t:((x.moves.length:Int)==0)=true:=by rw [q];rfl
    have HQ:Hid (true=(decide (x.moves.length=0)||x.cd)):=by show _=_;rw [q];simp
    clear q;go_wp2_with fail
    refine (HN.o true HQ.o).mono ?_;rintro e w2 ⟨rfl,hk,hx⟩;have HR:=ah (And.intro hk (And.intro hx (Cm.o.but hx gZ)));clear hk hx b0 b1 b2 b3 t;go_wp2
    go_meet
    exact HR.o
   .have t:((x.moves.length:Int)==0)=false:=by rw [beq_eq_false_iff_ne];omega
    have HQ:Hid (x.cd=(decide (x.moves.length=0)||x.cd)):=by
     show _=_;have:decide (x.moves.length=0)=false:=decide_eq_false q;rw [this,Bool.false_or]
    clear q;go_wp2_with fail
    refine (HN.o x.cd HQ.o).mono ?_;rintro e w2 ⟨rfl,hk,hx⟩;have HR:=ah (And.intro hk (And.intro hx (Cm.o.but hx gZ)));clear hk hx b0 b1 b2 b3 t;go_wp2
    go_meet
    exact HR.o
 case rest=>
  obtain ⟨hk,hx,hA⟩:=hcut;generalize wc=W1 at*;have mP:=ah hA;have eC:Hid (aB K V W1):=(tK.o.but K).trans hx
  have h5:=fH W1 K c s1 (decide ((x.moves.length:Int)<=16)) 3 8 hk;rw [zT.o]at h5;have J_:=ah h5;obtain ⟨b0,b1,b2,b3⟩:=cJ.at mP.o;clear hk hx hA h5 Cm tK;go_wp2_with fail
  refine J_.o.mono ?_;rintro e W2 ⟨rfl,hK2,hx2⟩;clear b0 b1 b2 b3;have vG:=ah (mP.o.but hx2 gZ);have eR:=ah (eC.o.trans hx2);have xn:=ah hK2;obtain ⟨-,-,-,U7,-⟩:=oN hK2;clear hx2 hK2 mP eC J_;by_cases h0:s2.err=0
  rotate_left
  .have t1:(s2.err !=0)=true:=by simpa using h0
   have hf:=LF.o;rw [if_pos h0]at hf;have HR:Hid (iW W2 K c sf):=by show iW _ _ _ _;rw [<-hf];exact xn.o
   clear h0 hf;go_wp2
   exact bodyPost_ret (v:= .tuple #[]) ax rfl ⟨rfl,HR.o,eR.o⟩
  have t1:(s2.err !=0)=false:=by simpa using h0
  have h16:=aa3.o h0;have hf:=LF.o;rw [if_neg (λe=>e h0)]at hf;have LF:=ah hf;clear h0 hf;obtain ⟨b0,b1,b2,b3⟩:=cJ.at vG.o;have hBl:B<W2.heap.size:=vG.o.lt;have LX:K<W2.heap.size:=xn.o.lt;obtain ⟨D,hD⟩: ∃D,D=W2.heap.size:=⟨_,rfl⟩;rw [<-hD]at hBl LX;have HD:=ah hD;have Tu:Hid (V.heap.size<=D):=by show _<=_;rw [hD];exact eR.o.size
  clear hD;go_wp2_with fail
  clear b0 b1 b2 b3 t1 U7;go_loopw [4,33] (λv ii wr=> ∃i:Nat,i<=x.moves.length/\iW wr K c (s2.BJ c.aA.length 3 ((x.moves.take i).map cj.unit))/\aB K V wr/\aT wr B 75 x.cells/\aL wr D 3 1 v ((x.moves.take i).map λm=> [i64 m.unit])/\D<=wr.heap.size/\ii= .int .i64 i) (λ_ ii _=>x.moves.length-(intOf ii).toNat)
  case atStart=>exact ⟨0,aZ,xn.o,eR.o,vG.o,aL.nil _ _ _ _,by rw [HD.o];exact bY,rfl⟩
  case round=>
   obtain ⟨i,hi,hk,hx,hA,hown,hD,rfl⟩:=hrel;clear xn eR vG;by_cases hlt:i<x.moves.length
   .have hE:=hx.ext HV.o dN.o
    obtain ⟨b,o,ha,c0,c1,c2⟩:=(HM.o.ext hE).moves i hlt;have HT:=ah (St.Ji s2 (c.aA.length:Int) x.moves i hlt);have HTK:Hid ((x.moves.take (i+1)).map (λm=> [i64 m.unit])=(x.moves.take i).map (λm=> [i64 m.unit])++ [[i64 x.moves[i].unit]]):=by show _=_;rw [List.take_succ_eq_append_getElem hlt,List.map_append];rfl
    have Vi:((x.moves.take i).map (λm=> [i64 m.unit])).length=i:=by simp;omega
    have Jh:=ah Vi;generalize s2.BJ (c.aA.length:Int) 3 ((x.moves.take i).map cj.unit)=s3 at*;generalize (x.moves.take i).map (λm=> [i64 m.unit])=R at*;obtain ⟨m,J6⟩: ∃m,m=x.moves[i]:=⟨_,rfl⟩;rw [<-J6]at c0 c1 c2 HT HTK
    have HOW:Hid (wr.ownsRow D 3 1 u4 i R.flatten):=by
     have h5:=hown.own;rw [Vi]at h5;exact h5
    have HO:=ah hown;have Hb:=ah hk;have kR:=ah hx;have BD:=ah hA;have Tp:=ah hD
    have iM:(0:Int)<=(i:Int):=ae;have iK:(i:Int)<(x.moves.length:Int):=ae;clear hown hk hx hA hE hD J6 Vi;rw [ha];go_upto_region 8 with fail
    obtain ⟨W3,hW3,x3,Z3,A3⟩:=aV wr 112 m.cells;rw [show wr.alloc (.cells #[i64 m.unit,i64 m.up,i64 m.down] 112)=W3 from hW3.symm];obtain ⟨E,mO⟩: ∃E,E=wr.heap.size:=⟨_,rfl⟩;rw [<-mO]at A3⊢;have mN:E≠K:=bA Hb.o.lt;have e0:W3.cell? ⟨E,0,none⟩=some (i64 m.unit):=(A3.cell 0).trans rfl;have Ot:=ah A3;have yY:=ah x3
    have RO:=ah (Hb.o.ext x3);obtain ⟨-,-,-,-,k4,-⟩:=eM RO.o;have ue:=BK.o;clear hW3 mO Z3 A3 x3 c0 c1 c2;rcases Bool.eq_false_or_eq_true (decide (0<=m.unit))with hp|hp
    .refine aO (λw'=>w'.cell? ⟨E,0,none⟩=some (i64 m.unit)/\w'.cell? ⟨K,4,none⟩=some (.slice c.ua c.aA.length c.uc)) (λw'=>True) (λi=>false) ax (⟨e0,k4⟩) (trivial) (λaD ai=> ?_)
     refine aJ 0 aD ai ?_;refine aJ 1 aD ai ?_;refine aJ 2 aD ai ?_ (v:=i64 m.unit);refine aJ 3 aD ai ?_;refine aJ 4 aD ai ?_;refine aJ 5 aD ai ?_;refine aJ 6 aD ai ?_ (v:=i64 m.unit);refine aJ 7 aD ai ?_;refine aJ 8 aD ai ?_;refine aJ 9 aD ai ?_;refine aJ 10 aD ai ?_;refine aJ 11 aD ai ?_;refine aJ 12 aD ai ?_ (v:= .int .i64 (c.aA.length:Int));refine aJ 13 aD ai ?_ (v:= .bool (decide (m.unit<(c.aA.length:Int))));refine aJ 14 aD ai ?_ (v:= .bool (decide (m.unit<(c.aA.length:Int))));refine eI 15 rfl (λKc hK=> ?_);go_simp;refine (fH W3.drew K c s3 (decide (m.unit<(c.aA.length:Int))) 3 12 (RO.o.ext ar.drew)).mono ?_;rintro e W4 ⟨rfl,hK4,gG⟩;refine hK.o _ _ (⟨bU (aC (Ext.refl W3).drew e0) gG mN,(eM hK4).2.2.2.2.1⟩) (trivial) (λaD ai=> ?_);clear hK Kc;try simp only [sS]
     refine aI ax ?_ _;clear aD ai;have Aa:iW W4 K c (s3.need (decide (0<=m.unit)&&decide (m.unit<(c.aA.length:Int))) 3 12):=by rw [hp];simpa using hK4
     clear hK4;have Kg:=ah Aa;have eP:aB K W3 W4:=((Ext.refl W3).drew.but K).trans gG;have lW:=ah eP;have Tv:W4.cell? ⟨E,0,none⟩=some (i64 m.unit):=bU e0 eP mN;have LY:Hid (W4.ownsRow D 3 1 u4 i R.flatten):=oY (bZ HOW.o yY.o) eP LX;have HO4:Hid (aL W4 D 3 1 u4 R):=(HO.o.ext yY.o).but eP LX;have hDs:D<=W4.heap.size:=Nat.le_trans Tp.o (Nat.le_trans yY.o.size eP.size);have RP:=ah hDs;clear gG eP Aa hp ue e0 k4;go_wp2_with (at_builtin;refine bC _ rfl (.tmp 53) (.tmp 56) 22 rfl D 3 (.int .i64 0) 1 8 underlying22 Tryz.info_int rfl aq u4 i R.flatten rfl ?c1 (some ⟨W4.heap.size,0,none⟩) 1 1 [i64 m.unit] rfl rfl ?c2 ?c3 ?c4 ?c5 aq ?c6 ?_;rotate_right;intro v1 w5 ho he hb hz hv)
     case c1=>exact bZ LY.o (ar.alloc _)
     case c2=>exact λ_=>⟨_,rfl,dH W4 3 [i64 m.unit]⟩
     case c3=>intro u hu;rw [List.mem_singleton]at hu;subst hu;rfl
     case c4=>intro e;cases e
     case c5=>omega
     case c6=>have:=RP.o;simp;omega
     have nH:=LY.o.lt;have Co:(W4.alloc (.cells #[i64 m.unit] 3)).heap.size=W4.heap.size+1:=aG;have xK:iW w5 K c (s3.need (decide (0<=m.unit)&&decide (m.unit<(c.aA.length:Int))) 3 12):=aT.keep (Kg.o.ext ((Ext.refl W4).alloc _)) (hb.o K (bA Kg.o.lt) (λe=>bA ((nH K e.symm).1)));have xB:aT w5 B 75 x.cells:=aT.keep ((BD.o.ext yY.o).but lW.o gZ|>.ext ((Ext.refl W4).alloc _)) (hb.o B (bA RP.o) (λe=>bA ((nH B e.symm).1)));have xX:aB K V w5:=aB.append ((kR.o.trans ((yY.o.but K).trans lW.o)).alloc' _) Tu.o (λk e=>(nH k e).1) he.o hb.o hz.o;have jl:=HO4.o.snoc (w':=w5) (v':=v1) (r:= [i64 m.unit]) rfl (by rw [Jh.o];exact ho.o);have Vj:D<=w5.heap.size:=qj hz.o RP.o;have HR:=ah (And.intro xK (And.intro xX (And.intro xB (And.intro jl Vj))));clear xK xB xX jl Vj Co nH ho he hb hz hv Tv;exact ⟨⟨i+1,ae,by rw [HT.o];exact HR.o.1,HR.o.2.1,HR.o.2.2.1,by rw [HTK.o];exact HR.o.2.2.2.1,HR.o.2.2.2.2,bf⟩,a_⟩
    .refine aO (λw'=>w'.cell? ⟨E,0,none⟩=some (i64 m.unit)/\w'.cell? ⟨K,4,none⟩=some (.slice c.ua c.aA.length c.uc)) (λw'=>True) (λi=>false) ax (⟨e0,k4⟩) (trivial) (λaD ai=> ?_)
     refine aJ 0 aD ai ?_;refine aJ 1 aD ai ?_;refine aJ 2 aD ai ?_ (v:=i64 m.unit);refine aJ 3 aD ai ?_;refine aJ 4 aD ai ?_;refine tF 5 aD ai ?_;refine tF 6 aD ai ?_;refine tF 7 aD ai ?_;refine tF 8 aD ai ?_;refine tF 9 aD ai ?_;refine tF 10 aD ai ?_;refine tF 11 aD ai ?_;refine tF 12 aD ai ?_;refine tF 13 aD ai ?_;refine aJ 14 aD ai ?_;refine eI 15 rfl (λKc hK=> ?_);go_simp;refine (fH W3.drew K c s3 (false) 3 12 (RO.o.ext ar.drew)).mono ?_;rintro e W4 ⟨rfl,hK4,gG⟩;refine hK.o _ _ (⟨bU (aC (Ext.refl W3).drew e0) gG mN,(eM hK4).2.2.2.2.1⟩) (trivial) (λaD ai=> ?_);clear hK Kc;try simp only [sS]
     refine aI ax ?_ _;clear aD ai;have Aa:iW W4 K c (s3.need (decide (0<=m.unit)&&decide (m.unit<(c.aA.length:Int))) 3 12):=by rw [hp];simpa using hK4
     clear hK4;have Kg:=ah Aa;have eP:aB K W3 W4:=((Ext.refl W3).drew.but K).trans gG;have lW:=ah eP;have Tv:W4.cell? ⟨E,0,none⟩=some (i64 m.unit):=bU e0 eP mN;have LY:Hid (W4.ownsRow D 3 1 u4 i R.flatten):=oY (bZ HOW.o yY.o) eP LX;have HO4:Hid (aL W4 D 3 1 u4 R):=(HO.o.ext yY.o).but eP LX;have hDs:D<=W4.heap.size:=Nat.le_trans Tp.o (Nat.le_trans yY.o.size eP.size);have RP:=ah hDs;clear gG eP Aa hp ue e0 k4;go_wp2_with (at_builtin;refine bC _ rfl (.tmp 53) (.tmp 56) 22 rfl D 3 (.int .i64 0) 1 8 underlying22 Tryz.info_int rfl aq u4 i R.flatten rfl ?c1 (some ⟨W4.heap.size,0,none⟩) 1 1 [i64 m.unit] rfl rfl ?c2 ?c3 ?c4 ?c5 aq ?c6 ?_;rotate_right;intro v1 w5 ho he hb hz hv)
     case c1=>exact bZ LY.o (ar.alloc _)
     case c2=>exact λ_=>⟨_,rfl,dH W4 3 [i64 m.unit]⟩
     case c3=>intro u hu;rw [List.mem_singleton]at hu;subst hu;rfl
     case c4=>intro e;cases e
     case c5=>omega
     case c6=>have:=RP.o;simp;omega
     have nH:=LY.o.lt;have Co:(W4.alloc (.cells #[i64 m.unit] 3)).heap.size=W4.heap.size+1:=aG;have xK:iW w5 K c (s3.need (decide (0<=m.unit)&&decide (m.unit<(c.aA.length:Int))) 3 12):=aT.keep (Kg.o.ext ((Ext.refl W4).alloc _)) (hb.o K (bA Kg.o.lt) (λe=>bA ((nH K e.symm).1)));have xB:aT w5 B 75 x.cells:=aT.keep ((BD.o.ext yY.o).but lW.o gZ|>.ext ((Ext.refl W4).alloc _)) (hb.o B (bA RP.o) (λe=>bA ((nH B e.symm).1)));have xX:aB K V w5:=aB.append ((kR.o.trans ((yY.o.but K).trans lW.o)).alloc' _) Tu.o (λk e=>(nH k e).1) he.o hb.o hz.o;have jl:=HO4.o.snoc (w':=w5) (v':=v1) (r:= [i64 m.unit]) rfl (by rw [Jh.o];exact ho.o);have Vj:D<=w5.heap.size:=qj hz.o RP.o;have HR:=ah (And.intro xK (And.intro xX (And.intro xB (And.intro jl Vj))));clear xK xB xX jl Vj Co nH ho he hb hz hv Tv;exact ⟨⟨i+1,ae,by rw [HT.o];exact HR.o.1,HR.o.2.1,HR.o.2.2.1,by rw [HTK.o];exact HR.o.2.2.2.1,HR.o.2.2.2.2,bf⟩,a_⟩
   .obtain rfl:i=x.moves.length:=ae
    rw [List.take_length]at hk hown;obtain ⟨ra,rc,rfl,hS,-⟩:=hown.recs aq;have hSl:(x.moves.map λm=> [i64 m.unit])=(x.moves.map cj.unit).map λz=> [i64 z]:=by rw [List.map_map];rfl
    have uM:(x.moves.map λm=> [i64 m.unit]).length=(x.moves.map cj.unit).length:=aG;rw [hSl]at hS;rw [uM]
    have hI:aS wr ra rc (x.moves.map cj.unit):=aS.nC hS (λz hz=>by
     obtain ⟨m,hm,rfl⟩:=List.mem_map.1 hz;exact HMI.o m hm m.unit aG)
    have Vk:=ah (nz wr ra rc (x.moves.map cj.unit) hI);obtain ⟨s3,hs3⟩: ∃s3,s3=s2.BJ (c.aA.length:Int) 3 (x.moves.map cj.unit):=⟨_,rfl⟩;rw [<-hs3]at hk;have hf:=LF.o;rw [<-hs3]at hf;have LF:=ah hf;have Hb:=ah hk;have kR:=ah hx;have BD:=ah hA
    clear hown hS hI hk hx hA hs3 hf hSl uM hD;generalize iY (x.moves.map cj.unit)=ab at*;generalize (x.moves.map cj.unit).length=ul at*;go_wp2_with fail
    refine Vk.o.mono ?_;rintro e W4 ⟨rfl,x4⟩;have h6:=fH W4 K c s3 ab 3 11 (Hb.o.ext x4);obtain ⟨s4,Co⟩: ∃s4,s4=s3.need ab 3 11:=⟨_,rfl⟩;rw [<-Co]at h6;have hf:=LF.o;rw [<-Co]at hf;have LF:=ah hf;have HN4:=ah h6;have yw:=ah (BD.o.ext x4);have pV:=ah (kR.o.trans (x4.but K))
    clear h6 Co hf x4 Vk BD kR Hb;go_wp2_with fail
    refine HN4.o.mono ?_;rintro e W5 ⟨rfl,hk5,eP⟩;have Kg:=ah hk5;have lW:=ah (pV.o.trans eP);have PX:=ah (yw.o.but eP gZ)
    obtain ⟨-,-,-,b3⟩:=cJ.at PX.o;clear hk5 eP HN4 yw pV;go_wp2_with fail
    clear b3;go_loopw [66] (λii wl=> ∃i:Nat,i<=x.moves.length/\iW wl K c (s4.Oy (x.moves.take i))/\aB K V wl/\ii= .int .i64 i) (λii _=>x.moves.length-(intOf ii).toNat)
    case atStart=>exact ⟨0,aZ,Kg.o,lW.o,rfl⟩
    case round=>
     obtain ⟨i,hi,hk,hx,rfl⟩:=hrel;clear Kg lW PX;by_cases hlt:i<x.moves.length
     .have hE:=hx.ext HV.o dN.o
      obtain ⟨b,o,ha,c0,c1,c2⟩:=(HM.o.ext hE).moves i hlt;have HT:=ah (St.LV s4 x.moves i hlt);generalize s4.Oy (x.moves.take i)=s5 at*;obtain ⟨m,J6⟩: ∃m,m=x.moves[i]:=⟨_,rfl⟩;rw [<-J6]at c0 c1 c2 HT;have HK6:=ah hk;have FT:=ah hx
      have iM:(0:Int)<=(i:Int):=ae;have iK:(i:Int)<(x.moves.length:Int):=ae;clear hk hx hE J6;rw [ha];go_upto_region 15 with fail
      obtain ⟨W6,K3,x6,Z6,A6⟩:=aV wr 112 m.cells;rw [show wr.alloc (.cells #[i64 m.unit,i64 m.up,i64 m.down] 112)=W6 from K3.symm];obtain ⟨E,mO⟩: ∃E,E=wr.heap.size:=⟨_,rfl⟩;rw [<-mO]at A6⊢;have mN:E≠K:=bA HK6.o.lt;have Ot:=ah A6;have Ns:=ah (FT.o.trans (x6.but K));have kS:=ah (HK6.o.ext x6);clear K3 mO Z6 A6 x6 c0 c1 c2 FT HK6;obtain ⟨-,e1,e2⟩:=cj.at Ot.o;go_wp2_with fail
      refine (iX W6 K c s5 3 m.up 0 1048576 kS.o).mono ?_;rintro e W7 ⟨rfl,hk7,oz⟩;clear e1 e2;obtain ⟨-,e1,e2⟩:=cj.at (Ot.o.but oz mN);go_wp2_with fail
      refine (iX W7 K c _ 3 m.down 0 1048576 hk7).mono ?_;rintro e W8 ⟨rfl,hk8,iu⟩;have HR:=ah (And.intro hk8 ((Ns.o.trans oz).trans iu));clear hk7 oz hk8 iu e1 e2;go_wp2
      exact ⟨⟨i+1,ae,by rw [HT.o];exact HR.o.1,HR.o.2,bf⟩,a_⟩
     .obtain rfl:i=x.moves.length:=ae
      rw [List.take_length,LF.o]at hk;have HR:=ah (And.intro hk hx);clear hk hx;go_wp2
      exact bodyPost_end (v:= .tuple #[]) ax rfl ⟨rfl,HR.o.1,HR.o.2⟩
