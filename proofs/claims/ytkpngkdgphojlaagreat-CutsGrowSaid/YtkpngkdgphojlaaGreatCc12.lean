/- Texts of the proof. -/
import Derived.Test.YtkpngkdgphojlaaGreatCc11
set_option linter.all false
namespace Go.Proofs.YtkpngkdgphojlaaGreat
open Go.RowKit Go.Sort Go.Shelf
def uN (x y:Int):Int:=if x<y then-1 else if x=y then 0 else 1
theorem kL (w:World) (x:Int):Calls Tryz.prog 169 #[i64 x] w fun e w'=>e= .returned (.bool false)∧w'=w:=by
 go_enter Tryz.func169,Tryz.ntmps169
 go_wp2_with fail
 go_ret;exact ⟨by simp,rfl⟩
theorem Mq (w:World) (x y:Int):Calls Tryz.prog 116 #[i64 x,i64 y] w fun e w'=>e= .returned (i64 (uN x y))∧w'=w:=by
 rcases (show x<y∨(¬x<y∧y<x)∨(¬x<y∧ ¬y<x) by omega)with h1|⟨h1,h2⟩|⟨h1,h2⟩
 ·have E1:Hid (uN x y= -1):=by show _=_;unfold uN;rw [if_pos h1]
  go_enter Tryz.func116,Tryz.ntmps116
  go_wp2_with fail
  refine (kL _ _).mono ?_;rintro e w1 ⟨rfl,rfl⟩;go_wp2_with fail
  refine (kL _ _).mono ?_;rintro e w2 ⟨rfl,rfl⟩;go_wp2_with fail
  go_ret;exact ⟨by rw [E1.out];rfl,rfl⟩
 ·have E1:Hid (uN x y=1):=by show _=_;unfold uN;rw [if_neg h1,if_neg (by omega)]
  go_enter Tryz.func116,Tryz.ntmps116
  go_wp2_with fail
  refine (kL _ _).mono ?_;rintro e w1 ⟨rfl,rfl⟩;go_wp2_with fail
  refine (kL _ _).mono ?_;rintro e w2 ⟨rfl,rfl⟩;go_wp2_with fail
  go_ret;exact ⟨by rw [E1.out];rfl,rfl⟩
 ·have E1:Hid (uN x y=0):=by show _=_;unfold uN;rw [if_neg h1,if_pos (by omega)]
  go_enter Tryz.func116,Tryz.ntmps116
  go_wp2_with fail
  refine (kL _ _).mono ?_;rintro e w1 ⟨rfl,rfl⟩;go_wp2_with fail
  refine (kL _ _).mono ?_;rintro e w2 ⟨rfl,rfl⟩;go_wp2_with fail
  go_ret;exact ⟨by rw [E1.out];rfl,rfl⟩
theorem Gx (w:World) (x y:Int):Calls Tryz.prog 152 #[i64 x,i64 y] w fun e w'=>e= .returned (i64 (uN y x))∧w'=w:=by
 go_enter Tryz.func152,Tryz.ntmps152
 go_wp2_with fail
 refine (Mq _ _ _).mono ?_;rintro e w1 ⟨rfl,rfl⟩;go_wp2_with fail
 go_ret;exact ⟨rfl,rfl⟩
theorem Gy (w:World) (b o c:Nat) (l:List Int) (h:aA w (some ⟨b,o,none⟩) c l) (h0:0<l.length) (hn:l.length≤1000):
 Calls Tryz.prog 151 #[.slice (some ⟨b,o,none⟩) l.length c] w fun e w'=> ∃g cap cur,e= .returned (.slice (some ⟨g,0,none⟩) l.length cap)∧w.heap.size≤g∧w'.heap[g]?=some (.cells cur 3 (0,0))∧cur.toList.take l.length=l.map i64∧Ext w w':=by
 have hle:=h.le;have di:=h.cap
 have hnil: ∀w,(binOp .eql 22 (.slice (some ⟨b,o,none⟩) l.length c) (.slice none 0 0)).run Tryz.prog w= .ok (.bool false) w:=fun w=>Lib.run_eql_slice_nil w _ _ _ _ _ _ _ Tryz.underlying22;go_enter Tryz.func151,Tryz.ntmps151
 have HN:Hid (∀j u,(l.map i64)[j]?=some u→(w.alloc (.cells #[] 3)).cell? (Addr.add ⟨b,o,none⟩ j)=some u):=fun j u hu=>by
  rw [List.getElem?_map]at hu
  obtain ⟨hj,e⟩: ∃hj:j<l.length,i64 l[j]=u:=by
   cases q:l[j]? with
   |none=>rw [q]at hu;cases hu
   |some z=>
    obtain ⟨hj,rfl⟩:=List.getElem?_eq_some_iff.1 q;rw [q]at hu;exact ⟨hj,by simpa using hu⟩
  obtain ⟨b',o',ha,hc⟩:=h.cell j hj;cases ha
  have e2:(Addr.add ⟨b,o,none⟩ j)=⟨b,o+j,none⟩:=by unfold Addr.add;split<;>simp_all
  rw [e2,←e];exact ai ((Ext.refl w).alloc _) hc
 have HOW:Hid ((w.alloc (.cells #[] 3)).ownsRow w.heap.size 3 1 (.slice (some ⟨w.heap.size,0,none⟩) 0 0) 0 []):=
  ⟨rfl,.inr ⟨w.heap.size,0,#[],rfl,Nat.le_refl _,aG.alloc w 3 [],Nat.le_refl _,by decide,rfl,rfl⟩⟩
 go_wp2_with (at_builtin;refine aV _ rfl (.tmp 5) (.tmp 6) 22 rfl w.heap.size 3 (.int .i64 0) 1 8 Tryz.underlying22 Tryz.info_int rfl (by decide) (.slice (some ⟨w.heap.size,0,none⟩) 0 0) 0 [] rfl HOW.out (some ⟨b,o,none⟩) l.length c (l.map i64) rfl ?c1 ?c2 ?c3 ?c4 ?c5 (by decide) ?c6 ?_;rotate_right;intro v1 w5 ho he hb hz hv)
 case c1=>simp
 case c2=>exact fun _=>⟨_,rfl,HN.out⟩
 case c3=>intro u hu;obtain ⟨z,_,rfl⟩:=List.mem_map.1 hu;rfl
 case c4=>intro e;cases e
 case c5=>omega
 case c6=>simp
 have x5:Ext w w5:=he.out w ((Ext.refl w).alloc _) (Nat.le_refl _);rcases ho.out.2 with⟨-,XL⟩|⟨g,cap,cur,rfl,hbg,hg,Ab,yI,hcs,lK⟩
 ·omega
 ·rw [Nat.zero_add,Nat.mul_one,List.nil_append]at lK
  have HR:=ae (And.intro hbg (And.intro hg lK));clear hbg hg lK hcs Ab yI ho he hb hz hv hnil;go_wp2_with fail
  go_ret;exact ⟨g,cap,cur,by rw [Nat.zero_add];rfl,HR.out.1,HR.out.2.1,HR.out.2.2,x5⟩
theorem Bh (x y:Int):uN x y<0↔x<y:=by
 unfold uN;split
 ·simp [*]
 ·split<;>simp [*]
theorem Js (l:List Int):(l.mergeSort fun x y=> !(ltOf (fun a b:Int=>uN b a) y x))=desc l:=by
 have e:(fun x y:Int=> !(ltOf (fun a b:Int=>uN b a) y x))=fun a b=>decide (b≤a):=by
  funext x y
  have h:=Bh x y;unfold ltOf;by_cases q:x<y
  ·have h2:=h.2 q
   have h3:decide (uN x y<0)=true:=by simpa using h2
   have h4:decide (y≤x)=false:=by simp;omega
   rw [h3,h4];rfl
  ·have h2: ¬uN x y<0:=fun e=>q (h.1 e)
   have h3:decide (uN x y<0)=false:=by simpa using h2
   have h4:decide (y≤x)=true:=by simp;omega
   rw [h3,h4];rfl
 unfold desc;rw [e]
theorem Mr:SWO (ltOf (fun a b:Int=>uN b a)):=by
 have e: ∀a b:Int,ltOf (fun a b:Int=>uN b a) a b=decide (b<a):=fun a b=>by
  unfold ltOf;rw [Bool.eq_iff_iff];simp only [decide_eq_true_iff];exact Bh b a
 refine ⟨fun x=>by rw [e];simp,fun x y z h1 h2=> ?_,fun x y z h1 h2=> ?_⟩
 ·rw [e]at*;simp at*;omega
 ·rw [e]at*;simp at*;omega
theorem uO {α:Type} [Inhabited α] (enc:α→Value) (w:World) (blk off m:Nat) (d:Array α) (os:Array Obj):ak blk w (sortWorld enc w blk off m d os):=
 ⟨rfl,rfl,rfl,Nat.le_add_right _ _,by unfold sortWorld;rw [size_grow,size_putRow];exact Nat.le_add_right _ _,fun k hk hne=>by
   unfold sortWorld;rw [heap_grow_old _ _ (by simpa [Sort.ahead]using hk)];unfold putRow mapBlock;simp [Array.getElem?_modify,Ne.symm hne,Sort.ahead]⟩
set_option maxRecDepth 100000 in
theorem uP (w:World) (b o c:Nat) (l:List Int) (h:aA w (some ⟨b,o,none⟩) c l) (h0:0<l.length) (hn:l.length≤1000):
 Calls Tryz.prog 89 #[.slice (some ⟨b,o,none⟩) l.length c] w fun e w'=> ∃g cap,e= .returned (.slice (some ⟨g,0,none⟩) l.length cap)∧(∀j (hj:j<(desc l).length),w'.cell? ⟨g,j,none⟩=some (i64 (desc l)[j]))∧Ext w w':=by
 have Jt:=ae (Gy w b o c l h h0 hn);clear h;go_enter Tryz.func89,Tryz.ntmps89
 go_wp2_with fail
 refine Jt.out.mono ?_;rintro e w1 ⟨g,cap,cur,rfl,hg,Ju,lK,x1⟩;have DM:g<w1.heap.size:=(Array.getElem?_eq_some_iff.1 Ju).1
 have hH:Holds (fun x:Int=>i64 x) w1 g 0 l.toArray:=by
  intro j hj;rw [List.size_toArray]at hj;rw [Nat.zero_add,getElem!_pos _ j (by rw [List.size_toArray];exact hj)]
  have h1:cur.toList[j]?=some (i64 l[j]):=by
   have h2:(cur.toList.take l.length)[j]?=some (i64 l[j]):=by rw [lK,List.getElem?_map,List.getElem?_eq_getElem hj];rfl
   rw [List.getElem?_take]at h2;rw [if_pos hj]at h2;exact h2
  have hA:aG w1 g 3 cur.toList:=Ju;refine ⟨?_,hA.frozen j⟩;rw [hA.cell j,h1];simp
 have eg: ∀args w,(callFunc 152 args).run Tryz.prog w= .ok (.enter 152 args) w:=enters_of Tryz.func152 (by kernel_rfl) rfl
 have PF: ∀x y:Int,ltOf (fun a b:Int=>uN b a) x y=false→ltOf (fun a b:Int=>uN b a) y x=false→x=y:=by
  intro x y h1 h2;unfold ltOf at h1 h2;rw [decide_eq_false_iff_not,Bh]at h1 h2;omega
 have Gz:CmpLays1 Tryz.prog 152 #[] (fun x:Int=>i64 x) (fun a b:Int=>uN b a) g 0 l.toArray.size w1:=by
  intro m os dk _ x y;refine (Gx _ x y).mono ?_;rintro e w' ⟨he,rfl⟩;exact ⟨he,(Ext.refl _).grow⟩
 have hS:=Any.slices_SortFunc_total Tryz.sortL (fun x:Int=>i64 x) (fun _=>rfl) (fun a b:Int=>uN b a) Mr 152 #[] g 0 cap l.toArray w1 eg Gz hH DM (by rw [List.size_toArray];omega) PF;rw [List.size_toArray]at hS;change Calls Tryz.prog 113 _ _ _ at hS
 have HS:=ae hS;have HH:=ae hH;clear hS Gz PF eg lK hH Jt;have HC:=ae Ju;clear Ju;go_wp2_with fail
 refine HS.out.mono ?_;rintro e w2 ⟨rfl,m,os,hw2⟩;rw [Js]at hw2;have hw:SW (fun x:Int=>i64 x) w1 g 0 (desc l).toArray w2:=⟨m,os,hw2⟩;have hlen:(desc l).toArray.size=l.toArray.size:=by rw [List.size_toArray,List.size_toArray,dH]
 have hR:=hw.holds DM HH.out hlen;have hX:ak g w1 w2:=by rw [hw2];exact uO _ _ _ _ _ _ _
 have HR:=ae hR;have HX:=ae (hX.ext x1 hg);clear hw2 hw hlen hR hX x1;go_wp2_with fail
 go_ret;refine ⟨g,cap,rfl,fun j hj=> ?_,HX.out⟩;have h5:=(HR.out j (by rw [List.size_toArray];exact hj)).1;rw [Nat.zero_add,getElem!_pos _ j (by rw [List.size_toArray];exact hj)]at h5;exact h5
theorem GA (s d want:Int) (l:List Int):tF s (d::l) want=if want≤s then 0 else tF (s+d) l want+1:=rfl
set_option maxHeartbeats 2000000 in
set_option maxRecDepth 100000 in
theorem ri (w0 V:World) (c:aq) (h:Nat) (us:List Nat) (a:Option Addr) (cap:Nat) (hV:Ext w0 V) (hc:aT w0 c) (eR:eZ c) (hh:(h:Int)<c.hours) (hu:dQ c.aj.length us) (hne:0<us.length) (hI:aA V a cap (aC us)):
 Calls Tryz.prog 40 #[.agg (C8 c),.int .i64 (h:Int),.slice a us.length cap] V fun e w'=>e= .returned (i64 ((fw c h us:Nat):Int))∧Ext V w':=by
 try unfold C8
 have hle:=hI.le;have di:=hI.cap
 rw [aK]at hle;have NT:=eR.frame.aj;have Og:=ae (mL eR (h:Int) (aC us));have PG:=ae (fV eR (h:Int));have HIS:=ae (vN (c:=c) (h:=(h:Int)) hu)
 have jV:us.length≤16:=by
  have h1:(jq c h (aC us) c.aj.length).length≤c.aj.length:=by
   unfold jq;rw [List.length_map];have:=List.length_filter_le (fun(u:Nat)=>hasB (aC us) (u:Int)) (List.range c.aj.length);rw [List.length_range]at this;exact this
  rw [HIS.out,List.length_map]at h1;omega
 have GC:Hid (fw c h us=tF (gu c h (aC us) c.aj.length) (desc (us.map (bC c h))) (kK c h)):=rfl;obtain ⟨gr,hgr⟩: ∃gr,gr=fw c h us:=⟨_,rfl⟩;rw [←hgr]at GC⊢;have vC:=ae (fun U (hU:Ext w0 U)=>Jr w0 U c h hU hc eR hh);have K2:=ae (fun U (hU:Ext w0 U)=>uL w0 U c (h:Int) hU hc (by omega));have HV:=ae hV;have HI:=ae hI
 clear hc eR hh hu hI hV hgr;go_enter Tryz.func40,Tryz.ntmps40
 go_upto_region 1 with fail
 obtain ⟨W,hW,x0,Z0,A0⟩:=aB V 32 c.cells;rw [show V.alloc (.cells (C8 c) 32)=W from hW.symm];obtain ⟨B,hB⟩: ∃B,B=V.heap.size:=⟨_,rfl⟩;rw [←hB]at A0⊢;have HX:=ae x0;have HA:=ae A0
 clear hW x0 Z0 A0;obtain ⟨k0,k1,k2,k3,k4,k5,k6,k7⟩:=aq.at HA.out;have PH:=ae (K2.out W (HV.out.trans HX.out));clear hB;go_wp2_with fail
 refine PH.out.mono ?_;rintro e W1 ⟨L,rfl,hT,x1,hL⟩;have HT:=ae hT;have eK:=ae (HX.out.trans x1);have bt:=ae (HA.out.ext x1)
 clear k0 k1 k2 k3 k4 k5 k6 k7 hT x1 PH K2 hL HX HA;go_wp2_with fail
 go_loopw [7,8,19] (fun sv v ii wr=> ∃(k:Nat) (s:Int),k≤c.aj.length∧s=gu c h (aC us) k∧sv= .int .i64 s∧aH wr W1.heap.size 3 1 v (dp (jq c h (aC us) k))∧Ext W1 wr∧ii= .int .i64 k) (fun _ _ ii _=>c.aj.length-(intOf ii).toNat)
 case atStart=>exact ⟨0,0,Nat.zero_le _,rfl,rfl,aH.nil _ _ _ _,Ext.refl _,rfl⟩
 case round=>
  obtain ⟨k,s,hk,hs,rfl,hown,hE,rfl⟩:=hrel;by_cases hlt:k<c.aj.length
  ·obtain ⟨t0,-⟩:=(HT.out.ext hE).cell k hlt
   have Bi:=jM c h (aC us) k;have Ms:=Bf c h (aC us) k;have hr1:=Og.out k;have hr2:=PG.out k
   obtain ⟨z,hz⟩: ∃z,z=bC c h k:=⟨_,rfl⟩;rw [←hz]at t0 Bi Ms hr2;have gO:=ae (j1 wr a cap (aC us) (k:Int) ((HI.out.ext eK.out).ext hE));rw [aK]at gO;have HO:=ae hown
   have HLEN:Hid ((jq c h (aC us) k).length≤k):=by
    show _≤_;unfold jq;rw [List.length_map];have:=List.length_filter_le (fun(u:Nat)=>hasB (aC us) (u:Int)) (List.range k);rw [List.length_range]at this;exact this
   have hw:IntKind.i64.wrap (s+z)=s+z:=by rw [IntKind.wrap_i64,hs];omega
   have GD:=ae Bi;have PI:=ae Ms;have HS:=ae hs
   generalize jq c h (aC us) k=il at*;have HE:=ae hE;have se:=hE.size
   have fM:(0:Int)≤(k:Int):=by omega
   have fH:(k:Int)<(c.aj.length:Int):=by omega
   clear hs Bi Ms hown hE hz hr1 hr2;rcases Bool.eq_false_or_eq_true (hasB (aC us) (k:Int))with hq|hq
   ·rw [hq]at gO
    have kt:Hid (s=gu c h (aC us) (k+1)):=by show _=_;rw [GD.out,if_pos hq];exact HS.out
    have j4:Hid (jq c h (aC us) (k+1)=il++ [z]):=by show _=_;rw [PI.out,if_pos hq]
    have HOW:Hid (wr.ownsRow W1.heap.size 3 1 u8 il.length (dp il).flatten):=by
     have h5:=HO.out.own;rw [dh]at h5;exact h5
    clear hq;go_wp2_with fail
    refine gO.out.mono ?_;rintro e w1 ⟨rfl,eE⟩;rw [eE];clear eE
    go_wp2_with (at_builtin;refine aV _ rfl (.tmp 27) (.tmp 29) 22 rfl W1.heap.size 3 (.int .i64 0) 1 8 Tryz.underlying22 Tryz.info_int rfl (by decide) u8 il.length (dp il).flatten rfl ?c1 (some ⟨wr.heap.size,0,none⟩) 1 1 [i64 z] rfl rfl ?c2 ?c3 ?c4 ?c5 (by decide) ?c6 ?_;rotate_right;intro v1 w5 ho he hb hz hv)
    case c1=>exact bG HOW.out ((Ext.refl _).alloc _)
    case c2=>exact fun _=>⟨_,rfl,cC wr 3 [i64 z]⟩
    case c3=>intro u hu;rw [List.mem_singleton]at hu;subst hu;rfl
    case c4=>intro e;cases e
    case c5=>have:=HLEN.out;omega
    case c6=>have:=se;simp;omega
    have x5:Ext W1 w5:=he.out W1 (HE.out.alloc _) (Nat.le_refl _);have iC:=HO.out.snoc (w':=w5) (v':=v1) (r:= [i64 z]) rfl (by rw [dh];exact ho.out);rw [←o8]at iC;exact ⟨⟨k+1,s,by omega,kt.out,by go_num,by rw [j4.out];exact iC,x5,by go_num⟩,by simp only [intOf];omega⟩
   ·rw [hq]at gO
    have Um: ¬hasB (aC us) (k:Int)=true:=by rw [hq];simp
    have kt:Hid (s+z=gu c h (aC us) (k+1)):=by show _=_;rw [GD.out,if_neg Um,HS.out]
    have j4:Hid (jq c h (aC us) (k+1)=il):=by show _=_;rw [PI.out,if_neg Um]
    clear hq Um;go_wp2_with fail
    refine gO.out.mono ?_;rintro e w1 ⟨rfl,eE⟩;rw [eE];clear eE
    go_wp2_with fail
    exact ⟨⟨k+1,s+z,by omega,kt.out,by go_num,by rw [j4.out];exact HO.out,HE.out,by go_num⟩,by simp only [intOf];omega⟩
  ·obtain rfl:k=c.aj.length:=by omega
   rw [HIS.out]at hown;have Un:=Og.out c.aj.length;rw [←hs]at GC Un;obtain ⟨ia,ic,rfl,hS,-⟩:=hown.recs (by decide)
   have Jv: ∀x∈us.map (bC c h),0≤x∧x≤1048576:=fun x hx=>by
    obtain ⟨u,_,rfl⟩:=List.mem_map.1 hx;exact PG.out u
   have Mt:(us.map (bC c h)).length=us.length:=by simp
   rw [dh];generalize us.map (bC c h)=ml at*;have PJ:aA wr ia ic ml:=aA.kn hS (fun z hz=>by have:=Jv z hz;unfold br;omega);obtain ⟨ib,io,hia,-⟩:=PJ.cell 0 (by omega);subst hia;have IB:=ae PJ;have PK:=ae (vC.out wr ((HV.out.trans eK.out).trans hE));have HE:=ae hE;have IG:=ae Mt;have PL:=ae Jv
   obtain ⟨k0,k1,k2,k3,k4,k5,k6,k7⟩:=aq.at (bt.out.ext hE);obtain ⟨wo,uM⟩: ∃wo:World,wo=wr:=⟨_,rfl⟩;subst uM;clear hs hown hS PJ hE vC Mt Jv;go_wp2_with fail
   refine PK.out.mono ?_;rintro e W2 ⟨rfl,x2⟩;have XM:=ae (uP W2 ib io ic ml (IB.out.ext x2) (by have:=IG.out;omega) (by have:=IG.out;omega));have sy:=ae (HE.out.trans x2);obtain ⟨want,K3⟩: ∃want,want=kK c h:=⟨_,rfl⟩;rw [←K3]at GC⊢;clear k0 k1 k2 k3 k4 k5 k6 k7 x2 PK IB K3;go_wp2_with fail
   refine XM.out.mono ?_;rintro e W3 ⟨g,gc,rfl,hg,x3⟩;have rj:(desc ml).length=us.length:=by rw [dH];exact IG.out
   have hdr: ∀x∈desc ml,0≤x∧x≤1048576:=fun x hx=>PL.out x ((fJ ml).mem_iff.1 hx);have Mt:=IG.out;have HG:=ae hg;have yA:=ae (sy.out.trans x3);have XN:=ae rj;have HDR:=ae hdr
   have XO:=ae Un;rw [Mt];generalize desc ml=D at*;clear hg x3 rj hdr XM IG PL Un Mt;go_wp2_with fail
   go_loopw [7,11,41] (fun sv lv ii wl=> ∃(k:Nat) (t:Int),k≤us.length∧0≤t∧t≤c.aj.length*1048576+k*1048576∧gr=k+tF t (D.drop k) want∧sv= .int .i64 t∧lv= .int .i64 k∧wl=W3∧ii= .int .i64 k) (fun _ _ ii _=>us.length-(intOf ii).toNat)
   case atStart=>exact ⟨0,s,Nat.zero_le _,XO.out.1,by have:=XO.out.2;omega,by rw [GC.out,List.drop_zero,Nat.zero_add],rfl,rfl,rfl,rfl⟩
   case round=>
    obtain ⟨k,t,hk,XP,XQ,Oh,rfl,rfl,Xt,rfl⟩:=hrel;subst Xt;clear GC;by_cases Jw:k<us.length
    ·have Uo:k<D.length:=by have:=XN.out;omega
     have d0:=HG.out k Uo;have hdr:=HDR.out D[k] (List.getElem_mem Uo);rw [List.drop_eq_getElem_cons Uo,GA]at Oh;obtain ⟨d,hd⟩: ∃d,d=D[k]:=⟨_,rfl⟩;rw [←hd]at d0 hdr Oh;have fM:(0:Int)≤(k:Int):=by omega
     have fH:(k:Int)<(us.length:Int):=by omega
     have hw:IntKind.i64.wrap (t+d)=t+d:=by rw [IntKind.wrap_i64];omega
     have XR:=ae Oh
     have PM:Hid (0≤t+d∧t+d≤c.aj.length*1048576+((k+1:Nat):Int)*1048576):=by
      show _∧_;constructor<;>omega
     clear hd hdr Oh XP XQ;by_cases hwt:want≤t
     ·have HQ:Hid (gr=k):=by show _=_;rw [XR.out,if_pos hwt];omega
      go_wp2_with fail
      go_ret;exact ⟨by rw [HQ.out];rfl,eK.out.trans yA.out⟩
     ·have HQ:Hid (gr=k+1+tF (t+d) (D.drop (k+1)) want):=by show _=_;rw [XR.out,if_neg hwt];omega
      go_wp2_with fail
      exact ⟨⟨k+1,t+d,by omega,PM.out.1,PM.out.2,HQ.out,by go_num,by go_num,by first|trivial|rfl,by go_num⟩,by simp only [intOf];omega⟩
    ·obtain rfl:k=us.length:=by omega
     have HQ:Hid (gr=us.length):=by
      show _=_;rw [Oh,List.drop_eq_nil_of_le (by have:=XN.out;omega)];rfl
     clear Oh XP XQ;go_wp2_with fail
     go_ret;exact ⟨by rw [HQ.out];rfl,eK.out.trans yA.out⟩
end Go.Proofs.YtkpngkdgphojlaaGreat
