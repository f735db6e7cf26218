/- Texts of the proof. -/
import Derived.Test.YtkpngkdgphojlaaGreatCd49
set_option linter.all false
set_option maxHeartbeats 8000000
set_option maxRecDepth 100000
namespace Go.Proofs.YtkpngkdgphojlaaGreat
open Go.Proofs.Tryz
open Go.RowKit Go.Sort
def TW (w:World) (e:Ending) (w':World):Prop:=
 e= .returned (.tuple #[.agg #[.bool false,.slice none 0 0,.slice none 0 0],.agg #[.bool false,.slice none 0 0,.slice none 0 0],.bool false])∧Ext w w'
theorem vS (w:World) (ta la ha ia:Option Addr) (tc lc hc ic L n:Nat) (rs:List ct) (qs:List Rat) (lo hi bK:List Int)
 (hR:og w ta tc rs qs L) (qN:aD w la lc lo) (Fa:aD w ha hc hi) (iG:aD w ia ic bK)
 (n1:rs.length=n) (n2:lo.length=n) (n3:hi.length=n) (n4:bK.length=n) (hn:n≤32) (_hL:L≤1000) (JU:yo (aR lo) (aR hi) n)
 (hg: ∃k,iZ (aR bK) n k∧ ¬(0≤dG (aR lo) (aR bK) n k∧dG (aR lo) (aR bK) n k≤fZ (aR lo) (aR hi) (aR bK) n k)):
 Calls prog 72 #[.slice ta n tc,.slice la n lc,.slice ha n hc,.slice ia n ic] w fun e w'=>TW w e w':=by
 have TM:=hR.le;have M0:=hR.cap;have Kf:=qN.le;have hl2:=qN.cap;have Xo:=Fa.le;have Ik:=Fa.cap;have hi1:=iG.le;have Le:=iG.cap
 have HR:=ae hR;have Ky:=ae qN;have Kz:=ae Fa;have wA:=ae iG;have xi:=ae JU;have HG:=ae hg
 clear hR qN Fa iG JU hg;have Ef:= @run_makeMap prog;have u1:decide ((32:Int)<(n:Int))=false:=by simp;omega
 have u2:((n:Int) !=(n:Int))=false:=by simp
 go_enter func72,ntmps72
 go_upto_region 1 with fail
 obtain ⟨W,hW,x0,Z0,A0,A1,A2⟩:=eT w 122 [.slice ta n tc] 119 kF 119 kF;rw [show(World.alloc (World.alloc (World.alloc w (Obj.cells #[Value.slice ta n tc] 122)) (Obj.cells #[Value.bool false,Value.slice none 0 0,Value.slice none 0 0] 119)) (Obj.cells #[Value.bool false,Value.slice none 0 0,Value.slice none 0 0] 119))=W from hW.symm];clear hW;have kb:=A0.cell 0;simp at kb;go_upto_region 5 with fail
 have TS:cZ (W.alloc (.map #[] 0)) W.heap.size 0 (fun _=>False) (fun _=>0):=cZ.made W;have y1:Ext W (W.alloc (.map #[] 0)):=(Ext.refl _).alloc _
 have MJ:cZ ((W.alloc (.map #[] 0)).alloc (.map #[] 0)) (W.heap.size+1) 0 (fun _=>False) (fun _=>0):=by
  have:=cZ.made (W.alloc (.map #[] 0));rwa [show(W.alloc (.map #[] 0)).heap.size=W.heap.size+1 from by simp]at this
 have y2:Ext (W.alloc (.map #[] 0)) ((W.alloc (.map #[] 0)).alloc (.map #[] 0)):=(Ext.refl _).alloc _
 have SI:Hid (D8 w W n (aR lo) (aR hi) (aR bK) ta tc 0 ((W.alloc (.map #[] 0)).alloc (.map #[] 0))):=
  ⟨x0.trans (y1.trans y2),A0.ext (y1.trans y2),A1.ext (y1.trans y2),A2.ext (y1.trans y2),(TS.ext y2).keys (od _) (fun k=>(vO _ _ k).symm),MJ.keys (od _) (fun k=>(vP _ _ _ k).symm)⟩
 generalize (W.alloc (.map #[] 0)).alloc (.map #[] 0)=W2 at*;clear TS y1 MJ y2 A0 A1 A2 kb Ef;have hz:w.heap.size+2<W.heap.size:=by have:=Z0.o;omega
 go_wp2_with fail
 go_loopw [46] (fun ii wr=> ∃i:Nat,i≤n∧D8 w W n (aR lo) (aR hi) (aR bK) ta tc i wr∧ii= .int .i64 i) (fun ii _=>n-(intOf ii).toNat)
 case atStart=>exact ⟨0,Nat.zero_le _,SI.o,rfl⟩
 case round=>
  obtain ⟨i,YN,xj,rfl⟩:=hrel;clear SI;by_cases hlt:i<n
  ·have hE:=xj.ext
   obtain ⟨bl,ol,rfl,cL⟩:=(Ky.o.ext hE).cell i (by omega);obtain ⟨bh,oh,rfl,cH⟩:=(Kz.o.ext hE).cell i (by omega);obtain ⟨bi,oi,rfl,cI⟩:=(wA.o.ext hE).cell i (by omega);have Pf:=wA.o.Nf i (by omega);have zl:bl<w.heap.size:=by obtain ⟨b',o',e',c'⟩:=Ky.o.cell i (by omega);cases e';exact bm c'
   have zh:bh<w.heap.size:=by obtain ⟨b',o',e',c'⟩:=Kz.o.cell i (by omega);cases e';exact bm c'
   have zi:bi<w.heap.size:=by obtain ⟨b',o',e',c'⟩:=wA.o.cell i (by omega);cases e';exact bm c'
   obtain ⟨YF,YG,YH⟩:=xi.o i hlt;have Cz:=xi.o.qI (aR bK) (aR bK i) i (by omega) (by omega);have qM:=xi.o.room (aR bK) (aR bK i) i (by omega) (by omega);have eA:aR lo i=lo[i]:=df (by omega);have eB:aR hi i=hi[i]:=df (by omega);have eC:aR bK i=bK[i]:=df (by omega);have Dk: ∀x,upd (dG (aR lo) (aR bK) i) (aR bK i) (dG (aR lo) (aR bK) i (aR bK i)-aR lo i) x=dG (aR lo) (aR bK) (i+1) x:=vQ _ _ i;have Po: ∀x,upd (fZ (aR lo) (aR hi) (aR bK) i) (aR bK i) (fZ (aR lo) (aR hi) (aR bK) i (aR bK i)+(aR hi i-aR lo i)) x=fZ (aR lo) (aR hi) (aR bK) (i+1) x:=vR _ _ _ i;have TT: ∀x,(x=aR bK i∨iZ (aR bK) i x)↔iZ (aR bK) (i+1) x:=ym _ i;have Gv:=xj.qI;have TU:=xj.room;rw [←eA]at cL;rw [←eB]at cH;rw [←eC]at cI Pf
   have sO:=ae xj;clear xj hE eA eB eC;generalize dG (aR lo) (aR bK) i=fm at*;generalize fZ (aR lo) (aR hi) (aR bK) i=fr at*;generalize aR lo i=l at*;generalize aR hi i=h at*;generalize aR bK i=k at*;have rY:bp k:=Pf;have t1:decide (l<(-1073741824:Int))=false:=by simp;omega
   have t2:decide ((1073741824:Int)<l)=false:=by simp;omega
   have t3:decide (h<(-1073741824:Int))=false:=by simp;omega
   have t4:decide ((1073741824:Int)<h)=false:=by simp;omega
   have t5:decide (h<l)=false:=by simp;omega
   have fK:IntKind.i64.wrap (fm k-l)=fm k-l:=by rw [IntKind.wrap_i64];omega
   have hw2:IntKind.i64.wrap (h-l)=h-l:=by rw [IntKind.wrap_i64];omega
   have hw3:IntKind.i64.wrap (fr k+(h-l))=fr k+(h-l):=by rw [IntKind.wrap_i64];omega
   have PD:=ae Dk;have YO:=ae Po;have Mk:=ae TT;have Gt:=ae Gv;have GV:=ae TU
   have f_:(0:Int)≤(i:Int):=by omega
   have fU:(i:Int)<(n:Int):=by omega
   clear Dk Po TT Gv TU;go_wp2_with fail
   refine dW (S:=fun w'=>w'.cell? ⟨bl,ol+i,none⟩=some (.int .i64 l)∧w'.cell? ⟨bh,oh+i,none⟩=some (.int .i64 h)) (fun i=>false) (by kernel_rfl) (⟨cL,cH⟩) (fun aq=> ?_);refine bT 0 aq ?_;refine bT 1 aq ?_ (v:= .int .i64 (i:Int));refine bT 2 aq ?_;refine bT 3 aq ?_ (v:= .int .i64 l);refine bT 4 aq ?_;refine bT 5 aq ?_;refine bT 6 aq ?_;refine bT 7 aq ?_ (v:= .int .i64 (i:Int));refine bT 8 aq ?_;refine bT 9 aq ?_ (v:= .int .i64 l);refine bT 10 aq ?_;refine bT 11 aq ?_;refine bT 12 aq ?_;refine bT 13 aq ?_;refine bT 14 aq ?_ (v:= .int .i64 (i:Int));refine bT 15 aq ?_;refine bT 16 aq ?_ (v:= .int .i64 h);refine bT 17 aq ?_;refine bT 18 aq ?_;refine bT 19 aq ?_;refine bT 20 aq ?_;refine bT 21 aq ?_ (v:= .int .i64 (i:Int));refine bT 22 aq ?_;refine bT 23 aq ?_ (v:= .int .i64 h);refine bT 24 aq ?_;refine bT 25 aq ?_;refine bT 26 aq ?_;refine bT 27 aq ?_;refine bT 28 aq ?_ (v:= .int .i64 (i:Int));refine bT 29 aq ?_;refine bT 30 aq ?_ (v:= .int .i64 l);refine bT 31 aq ?_;refine bT 32 aq ?_ (v:= .int .i64 (i:Int));refine bT 33 aq ?_;refine bT 34 aq ?_ (v:= .int .i64 h);refine bT 35 aq ?_;refine bT 36 aq ?_;refine dV (by kernel_rfl) ?_ _;clear aq;go_wp2_with fail
   refine dW (S:=fun w'=>w'.cell? ⟨bl,ol+i,none⟩=some (.int .i64 l)∧w'.cell? ⟨bi,oi+i,none⟩=some (.int .i64 k)∧cZ w' W.heap.size i (iZ (aR bK) i) fm) (fun i=>i==11) (by kernel_rfl) (⟨cL,cI,Gt.o.same rfl⟩) (fun aq=> ?_);refine bT 0 aq ?_ (v:= .map (some W.heap.size));refine bT 1 aq ?_;refine bT 2 aq ?_ (v:= .int .i64 (i:Int));refine bT 3 aq ?_;refine bT 4 aq ?_ (v:= .int .i64 k);refine bT 6 aq ?_;refine bT 7 aq ?_ (v:= .int .i64 (i:Int));refine bT 8 aq ?_;refine bT 9 aq ?_ (v:= .int .i64 l);refine bT 5 aq ?_ (v:= .int .i64 (fm k)) (hy:=by intro w hSw;obtain ⟨e0,e1,e2⟩:=hSw;have hl:=e2.look rY;go_simp);refine bT 10 aq ?_ (v:= .int .i64 (fm k-l));refine bZ (rs:= [11]) (by kernel_rfl) (by simp) ?_;refine aU.last rfl rfl (fun Kc hK=> ?_) aU.nil;rw [if_pos (by rfl)];refine iu _ _ _ _ rfl W.heap.size i (iZ (aR bK) i) fm k (fm k-l) rfl rfl rfl (Gt.o.same rfl) (by omega) rY (by unfold bp;omega) ?_;intro w4 YP Cm;refine hK.o _ _ ?_;clear hK Kc;try simp only [sS]
   refine dV (by kernel_rfl) ?_ _;clear aq;go_wp2_with fail
   have YQ:=Cm.cell (p:=⟨bl,ol+i,none⟩) (by simp only;omega) (show wr.drew.drew.cell? _=_ from cL);have YR:=Cm.cell (p:=⟨bh,oh+i,none⟩) (by simp only;omega) (show wr.drew.drew.cell? _=_ from cH);have YS:=Cm.cell (p:=⟨bi,oi+i,none⟩) (by simp only;omega) (show wr.drew.drew.cell? _=_ from cI);have JV:cZ w4 (W.heap.size+1) i (iZ (aR bK) i) fr:=(GV.o.same rfl:cZ wr.drew.drew _ _ _ _).turn Cm (by omega);have JW:=ae JV;clear JV;refine dW (S:=fun w'=>w'.cell? ⟨bl,ol+i,none⟩=some (.int .i64 l)∧w'.cell? ⟨bh,oh+i,none⟩=some (.int .i64 h)∧w'.cell? ⟨bi,oi+i,none⟩=some (.int .i64 k)∧cZ w' (W.heap.size+1) i (iZ (aR bK) i) fr) (fun i=>i==16) (by kernel_rfl) (⟨YQ,YR,YS,JW.o.same rfl⟩) (fun aq=> ?_);refine bT 0 aq ?_ (v:= .map (some (W.heap.size+1)));refine bT 1 aq ?_;refine bT 2 aq ?_ (v:= .int .i64 (i:Int));refine bT 3 aq ?_;refine bT 4 aq ?_ (v:= .int .i64 k);refine bT 6 aq ?_;refine bT 7 aq ?_ (v:= .int .i64 (i:Int));refine bT 8 aq ?_;refine bT 9 aq ?_ (v:= .int .i64 h);refine bT 10 aq ?_;refine bT 11 aq ?_ (v:= .int .i64 (i:Int));refine bT 12 aq ?_;refine bT 13 aq ?_ (v:= .int .i64 l);refine bT 5 aq ?_ (v:= .int .i64 (fr k)) (hy:=by intro w hSw;obtain ⟨e0,e1,e2,e3⟩:=hSw;have hl:=e3.look rY;go_simp);refine bT 14 aq ?_ (v:= .int .i64 (h-l));refine bT 15 aq ?_ (v:= .int .i64 (fr k+(h-l)));refine bZ (rs:= [16]) (by kernel_rfl) (by simp) ?_;refine aU.last rfl rfl (fun Kc hK=> ?_) aU.nil;rw [if_pos (by rfl)];refine iu _ _ _ _ rfl (W.heap.size+1) i (iZ (aR bK) i) fr k (fr k+(h-l)) rfl rfl rfl (JW.o.same rfl) (by omega) rY (by unfold bp;omega) ?_;intro w5 YT A_;refine hK.o _ _ ?_;clear hK Kc;try simp only [sS]
   refine dV (by kernel_rfl) ?_ _;clear aq;go_wp2_with fail
   have YU:cZ w5 W.heap.size (i+1) (iZ (aR bK) (i+1)) (dG (aR lo) (aR bK) (i+1)):=((show cZ w4.drew W.heap.size (i+1) _ _ from YP.same rfl).turn A_ (show W.heap.size≠W.heap.size+1 by omega)).keys Mk.o PD.o;have LD:cZ w5 (W.heap.size+1) (i+1) (iZ (aR bK) (i+1)) (fZ (aR lo) (aR hi) (aR bK) (i+1)):=YT.keys Mk.o YO.o;exact ⟨⟨i+1,by omega,⟨A_.ext (Cm.ext (sO.o.ext.drew.drew) (by omega)).drew (by omega),A_.arr (by omega) (Cm.arr (by omega) sO.o.box),A_.arr (by omega) (Cm.arr (by omega) sO.o.r1),A_.arr (by omega) (Cm.arr (by omega) sO.o.r2),YU,LD⟩,by go_num⟩,by simp only [intOf];omega⟩
  ·obtain rfl:i=n:=by omega
   clear YN hlt;have Gv:=xj.qI;have Po:=xj.room.lt;have GY:=xi.o.qI (aR bK);have Vl: ∀k,dG (aR lo) (aR bK) i k≤1099511627776:=fun k=>by have:=GY k i (Nat.le_refl _) (by omega);omega
   have BH: ∀k,¬iZ (aR bK) i k→dG (aR lo) (aR bK) i k=0:=by
    intro k hk;obtain ⟨D,⟨es,clock,hb,F,hs,hD⟩,h2,h3⟩:=Gv
    have hh:Maps.has D (.int .i64 k)=false:=by
     cases hq:Maps.has D (.int .i64 k)with
     |false=>rfl
     |true=>exact absurd ((h2 k).1 hq) hk
    have:=h3 k;rw [Maps.atKey_of_not_has hh]at this;simp only [DataW.lit.injEq,Lit.int.injEq,true_and]at this;exact this.symm
   have sO:=ae xj;have Gt:=ae Gv;have JX:=xj.room;have Pp:=ae JX;clear xj Gv GY JX;generalize iZ (aR bK) i=K at*;generalize dG (aR lo) (aR bK) i=fm at*;generalize fZ (aR lo) (aR hi) (aR bK) i=fr at*;clear Vl BH;obtain ⟨rr,Ge⟩: ∃rr,rr=wr.heap.size:=⟨_,rfl⟩;have YV:W.heap.size+1<rr:=by omega
   have HRR:=ae Ge;obtain ⟨kb,hkb,M7⟩:=HG.o;have HKB:=ae M7;clear M7;go_wp2_with (at_range;refine kG _ rfl _ rfl W.heap.size i K fm rfl Gt.o ?_;intro w6 JY LG x6 z6)
   rw [←Ge]at LG⊢;have S6:Hid (Gu w W rr i ta tc K fm fr K JY w6):=⟨sO.o.ext.trans x6,sO.o.box.ext x6,sO.o.r1.ext x6,sO.o.r2.ext x6,LG,fun k hk=>hk,Pp.o.ext x6⟩;clear Ge LG x6 z6
   go_frame
   go_loopw [15] (fun _ wq=> ∃(left:Int→Prop) (cnt:Nat),Gu w W rr i ta tc K fm fr left cnt wq∧left kb) (fun _ wq=>wq.rangeLeft W.heap.size rr)
   case atStart=>exact ⟨K,JY,S6.o,hkb⟩
   case round=>
    obtain ⟨left,cnt,L1,TX⟩:=hrel;have ug:=ae L1;clear L1 S6;go_wp2_with (at_next;refine lH _ rfl _ rfl W.heap.size rr i K fm left cnt rfl ug.o.rg ?_ ?_)
    ·intro hl0
     exact absurd TX (hl0 kb)
    ·intro x w7 J0 Pt hlx hfx L4 Pu zX hen
     have Pv:=ug.o.room.turn zX (show W.heap.size+1≠rr by omega);have TV:=Pv.look Pt;have E7:Ext w w7:=zX.ext ug.o.ext (by omega);have P7:=zX.arr (by omega) ug.o.r1;have Q7:aJ w7 (w.heap.size+1+1) 119 kF:=zX.arr (by omega) ug.o.r2;by_cases hgx:0≤fm x
     ·have t1:decide (fm x<0)=false:=by simp;omega
      by_cases Ug:fm x≤fr x
      ·have t2:decide (fr x<fm x)=false:=by simp;omega
       have hne:kb≠x:=by
        rintro rfl;exact HKB.o ⟨hgx,Ug⟩
       have S7:Hid (Gu w W rr i ta tc K fm fr (fun k=>left k∧k≠x) J0 w7):=⟨E7,zX.arr (by omega) ug.o.box,P7,Q7,L4,fun k hk=>ug.o.sub k hk.1,Pv⟩;have Dk:w7.rangeLeft W.heap.size rr<wr.rangeLeft W.heap.size rr:=by rw [L4.left_eq,ug.o.rg.left_eq];exact Pu
       clear Pv L4 zX P7 Q7;go_wp2_with fail
       exact ⟨⟨_,J0,S7.o,TX,hne⟩,Dk⟩
      ·have t2:decide (fr x<fm x)=true:=by simp;omega
       have p0:=aC P7 (Ext.refl _);have q0:=aC Q7 (Ext.refl _);clear P7 Q7 L4 zX;go_wp2_with fail
       refine bodyPost_ret (v:= .tuple #[.agg #[.bool false,.slice none 0 0,.slice none 0 0],.agg #[.bool false,.slice none 0 0,.slice none 0 0],.bool false]) (by simp [results,results72,go_sem, *]) rfl ⟨rfl,?_⟩;exact Ext.yr (Ext.yr E7 (by omega)) (by omega)
     ·have t1:decide (fm x<0)=true:=by simp;omega
      have p0:=aC P7 (Ext.refl _);have q0:=aC Q7 (Ext.refl _);clear P7 Q7 L4 zX;go_wp2_with fail
      refine bodyPost_ret (v:= .tuple #[.agg #[.bool false,.slice none 0 0,.slice none 0 0],.agg #[.bool false,.slice none 0 0,.slice none 0 0],.bool false]) (by simp [results,results72,go_sem, *]) rfl ⟨rfl,?_⟩;exact Ext.yr (Ext.yr E7 (by omega)) (by omega)
theorem Cn (w:World) (r1 r2:ct) (q1 q2:Rat) (B1 B2 b:Nat) (T:TypeId) (h1:cT w r1 q1 B1) (h2:cT w r2 q2 B2) (z1:oB q1≤2) (z2:oB q2≤2)
 (hA:aJ w b T [.bool r1.s,.slice r1.a r1.k r1.c,.slice r1.b r1.j r1.d,.bool r2.s,.slice r2.a r2.k r2.c,.slice r2.b r2.j r2.d]):og w (some ⟨b,0,none⟩) 2 [r1,r2] [q1,q2] 2:=by
 refine ⟨rfl,by simp,by decide,by simp,?_,?_⟩
 ·intro i hi
  have hi':i<2:=hi;rcases (show i=0∨i=1 by omega)with rfl|rfl<;>exact ⟨b,0,rfl,hA.cell _,hA.cell _,hA.cell _⟩
 ·intro i hi
  have hi':i<2:=hi;rcases (show i=0∨i=1 by omega)with rfl|rfl
  ·exact h1.I8.mono z1
  ·exact h2.I8.mono z2
theorem lJ (w:World) (b:Nat) (x y:Int) (hx: -1000≤x∧x≤1000) (hy: -1000≤y∧y≤1000) (hA:aJ w b 3 [.int .i64 x,.int .i64 y]):aD w (some ⟨b,0,none⟩) 2 [x,y]:=by
 refine ⟨by simp,by decide,?_,?_⟩
 ·intro i hi
  have hi':i<2:=hi;rcases (show i=0∨i=1 by omega)with rfl|rfl<;>exact ⟨b,0,rfl,hA.cell _⟩
 ·intro i hi
  have hi':i<2:=hi;rcases (show i=0∨i=1 by omega)with rfl|rfl<;>simp<;>omega
theorem J1 {l:List Nat} (h:l.Perm [0,1]):l= [0,1]∨l= [1,0]:=by
 have hl:l.length=2:=h.length_eq;match l,hl with
 | [a,b],_=>
   have ha:a∈ [0,1]:=h.mem_iff.1 (by simp);have hb:b∈ [0,1]:=h.mem_iff.1 (by simp);have hn: [a,b].Nodup:=h.nodup_iff.2 (by decide);simp at ha hb hn;rcases ha with rfl|rfl<;>rcases hb with rfl|rfl<;>simp_all
def M8:List Rat:= [mkRat 1 2,mkRat (-1) 4]
theorem Co:dI M8 2= [1,0]:=by
 have hp:=qH M8 2;have hs:=vM M8 2;rcases J1 hp with h|h
 ·rw [h]at hs
  have:=(List.pairwise_cons.1 hs).1 1 (by simp);exact absurd this (by decide+kernel)
 ·exact h
theorem J2:fY (qG M8) (aR [0,-6]) (aR [10,4]) (aR [0,0]) (dI M8 2) (dG (aR [0,-6]) (aR [0,0]) 2)=0:=by
 rw [Co];decide+kernel
theorem Cp:fY (qG M8) (aR [0,-6]) (aR [10,4]) (aR [0,0]) (dI M8 2).reverse (dG (aR [0,-6]) (aR [0,0]) 2)=mkRat 9 2:=by
 rw [Co];decide+kernel
theorem J3 (V:World) (r1 r2:ct) (B1 B2 b:Nat) (h1:cT V r1 (mkRat 1 2) B1) (h2:cT V r2 (mkRat (-1) 4) B2) (hA:aJ V b 119 [.bool r1.s,.slice r1.a r1.k r1.c,.slice r1.b r1.j r1.d,.bool r2.s,.slice r2.a r2.k r2.c,.slice r2.b r2.j r2.d])
 (bl bh bi:Nat) (hl:aJ V bl 3 [.int .i64 0,.int .i64 (-6)]) (hh:aJ V bh 3 [.int .i64 10,.int .i64 4]) (hi:aJ V bi 3 [.int .i64 0,.int .i64 0]):
 Calls prog 72 #[.slice (some ⟨b,0,none⟩) 2 2,.slice (some ⟨bl,0,none⟩) 2 2,.slice (some ⟨bh,0,none⟩) 2 2,.slice (some ⟨bi,0,none⟩) 2 2] V (M4 V 0 (mkRat 9 2)):=by
 have h5:=xh V (some ⟨b,0,none⟩) (some ⟨bl,0,none⟩) (some ⟨bh,0,none⟩) (some ⟨bi,0,none⟩) 2 2 2 2 2 2 [r1,r2] M8 [0,-6] [10,4] [0,0] (Cn V r1 r2 _ _ B1 B2 b _ h1 h2 (by decide+kernel) (by decide+kernel) hA) (lJ V bl 0 (-6) (by omega) (by omega) hl) (lJ V bh 10 4 (by omega) (by omega) hh) (lJ V bi 0 0 (by omega) (by omega) hi) rfl rfl rfl rfl (by omega) (by
  intro i hi;have hi':i<2:=hi;rcases (show i=0∨i=1 by omega)with rfl|rfl
  ·exact h1.TK (by decide+kernel) (by decide+kernel)
  ·exact h2.TK (by decide+kernel) (by decide+kernel)) (by
  intro i;match i with
  |0=>exact ⟨2,by decide+kernel,by decide⟩
  |1=>exact ⟨-1,by decide+kernel,by decide⟩
  |n+2=>exact ⟨0,by show(0:Rat)=mkRat 0 4;decide+kernel,by decide⟩) (by
  intro i hi;rcases (show i=0∨i=1 by omega)with rfl|rfl<;>decide) (by
  intro i hi;rcases (show i=0∨i=1 by omega)with rfl|rfl<;>decide) (by
  rintro k ⟨j,hj,rfl⟩;rcases (show j=0∨j=1 by omega)with rfl|rfl<;>decide)
 rw [J2,Cp]at h5;exact h5
theorem Gw (V:World) (r1 r2:ct) (B1 B2 b:Nat) (h1:cT V r1 0 B1) (h2:cT V r2 0 B2) (hA:aJ V b 119 [.bool r1.s,.slice r1.a r1.k r1.c,.slice r1.b r1.j r1.d,.bool r2.s,.slice r2.a r2.k r2.c,.slice r2.b r2.j r2.d])
 (bl bh bi:Nat) (hl:aJ V bl 3 [.int .i64 1,.int .i64 0]) (hh:aJ V bh 3 [.int .i64 2,.int .i64 3]) (hi:aJ V bi 3 [.int .i64 0,.int .i64 0]):
 Calls prog 72 #[.slice (some ⟨b,0,none⟩) 2 2,.slice (some ⟨bl,0,none⟩) 2 2,.slice (some ⟨bh,0,none⟩) 2 2,.slice (some ⟨bi,0,none⟩) 2 2] V (TW V):=by
 exact vS V (some ⟨b,0,none⟩) (some ⟨bl,0,none⟩) (some ⟨bh,0,none⟩) (some ⟨bi,0,none⟩) 2 2 2 2 2 2 [r1,r2] [0,0] [1,0] [2,3] [0,0] (Cn V r1 r2 _ _ B1 B2 b _ h1 h2 (by decide+kernel) (by decide+kernel) hA) (lJ V bl 1 0 (by omega) (by omega) hl) (lJ V bh 2 3 (by omega) (by omega) hh) (lJ V bi 0 0 (by omega) (by omega) hi) rfl rfl rfl rfl (by omega) (by omega) (by
  intro i hi;rcases (show i=0∨i=1 by omega)with rfl|rfl<;>decide) ⟨0,⟨0,by omega,rfl⟩,by decide⟩
theorem vT (w:World) (T0 T1 T2 T3:TypeId) (l0 l1 l2 l3:List Value): ∃V:World,V=(((w.alloc (.cells l0.toArray T0)).alloc (.cells l1.toArray T1)).alloc (.cells l2.toArray T2)).alloc (.cells l3.toArray T3)∧Ext w V∧aJ V w.heap.size T0 l0∧aJ V (w.heap.size+1) T1 l1∧aJ V (w.heap.size+1+1) T2 l2∧aJ V (w.heap.size+1+1+1) T3 l3:=by
 obtain ⟨V,hV,x0,z0,a0,a1,a2⟩:=eT w T0 l0 T1 l1 T2 l2;refine ⟨_,rfl,?_⟩;rw [←hV];have x1:Ext V (V.alloc (.cells l3.toArray T3)):=(Ext.refl _).alloc _;have a3:=aJ.alloc V T3 l3;rw [z0.o]at a3;exact ⟨x0.trans x1,a0.ext x1,a1.ext x1,a2.ext x1,a3⟩
theorem Cq (w:World):Calls prog 28 #[] w fun e w'=>e= .returned (.bool true)∧Ext w w':=by
 go_enter func28,ntmps28
 go_wp2_with fail
 refine (Je w 1 2 (by omega) (by omega) (by omega)).mono ?_;intro e w1 hN;obtain ⟨r1,rfl,hr1,x1⟩:=hN.qp;clear hN;go_wp2_with fail
 refine (Je w1 (-1) 4 (by omega) (by omega) (by omega)).mono ?_;intro e w2 hN;obtain ⟨r2,rfl,hr2,x2⟩:=hN.qp;clear hN;go_wp2_with fail
 obtain ⟨V3,hV3,x3,a0,a1,a2,a3⟩:=vT w2 119 3 3 3 [.bool r1.s,.slice r1.a r1.k r1.c,.slice r1.b r1.j r1.d,.bool r2.s,.slice r2.a r2.k r2.c,.slice r2.b r2.j r2.d] [.int .i64 0,.int .i64 (-6)] [.int .i64 10,.int .i64 4] [.int .i64 0,.int .i64 0];rw [show((((w2.alloc (Obj.cells #[.bool r1.s,.slice r1.a r1.k r1.c,.slice r1.b r1.j r1.d,.bool r2.s,.slice r2.a r2.k r2.c,.slice r2.b r2.j r2.d] 119)).alloc (Obj.cells #[.int .i64 0,.int .i64 (-6)] 3)).alloc (Obj.cells #[.int .i64 10,.int .i64 4] 3)).alloc (Obj.cells #[.int .i64 0,.int .i64 0] 3))=V3 from hV3.symm];clear hV3;refine (J3 V3 r1 r2 _ _ _ ((hr1.ext x2).ext x3) (hr2.ext x3) a0 _ _ _ a1 a2 a3).mono ?_;rintro e w4 ⟨p,q,rfl,hp,hq,x4⟩;have X4:Ext w w4:=((x1.trans x2).trans x3).trans x4;clear hr1 hr2 a0 a1 a2 a3 x1 x2 x3 x4;go_upto_region 2 with fail
 obtain ⟨V5,hV5,x5,Z5,A5,B5⟩:=fu w4 119 [.bool p.s,.slice p.a p.k p.c,.slice p.b p.j p.d] 119 [.bool q.s,.slice q.a q.k q.c,.slice q.b q.j q.d];rw [show(w4.alloc (Obj.cells #[.bool p.s,.slice p.a p.k p.c,.slice p.b p.j p.d] 119)).alloc (Obj.cells #[.bool q.s,.slice q.a q.k q.c,.slice q.b q.j q.d] 119)=V5 from hV5.symm];clear hV5;have hp5:=hp.ext x5;have Ve:=hq.ext x5;have X5:Ext w V5:=X4.trans x5;clear hp hq X4 x5 Z5;go_wp2_with fail
 refine (zA _).mono ?_;intro e w6 hN;obtain ⟨r3,rfl,hr3,x6⟩:=hN.qp;clear hN;go_wp2_with fail
 refine (zA _).mono ?_;intro e w7 hN;obtain ⟨r4,rfl,hr4,x7⟩:=hN.qp;clear hN;go_wp2_with fail
 obtain ⟨V8,hV8,x8,a0,a1,a2,a3⟩:=vT w7 119 3 3 3 [.bool r3.s,.slice r3.a r3.k r3.c,.slice r3.b r3.j r3.d,.bool r4.s,.slice r4.a r4.k r4.c,.slice r4.b r4.j r4.d] [.int .i64 1,.int .i64 0] [.int .i64 2,.int .i64 3] [.int .i64 0,.int .i64 0];rw [show((((w7.alloc (Obj.cells #[.bool r3.s,.slice r3.a r3.k r3.c,.slice r3.b r3.j r3.d,.bool r4.s,.slice r4.a r4.k r4.c,.slice r4.b r4.j r4.d] 119)).alloc (Obj.cells #[.int .i64 1,.int .i64 0] 3)).alloc (Obj.cells #[.int .i64 2,.int .i64 3] 3)).alloc (Obj.cells #[.int .i64 0,.int .i64 0] 3))=V8 from hV8.symm];clear hV8;refine (Gw V8 r3 r4 _ _ _ ((hr3.ext x7).ext x8) (hr4.ext x8) a0 _ _ _ a1 a2 a3).mono ?_;rintro e w9 ⟨rfl,x9⟩;have y9:Ext V5 w9:=((x6.trans x7).trans x8).trans x9;clear hr3 hr4 a0 a1 a2 a3 x6 x7 x8 x9;go_upto_region 3 with fail
 obtain ⟨V,hV,xV,ZV,A9,B9⟩:=fu w9 119 [.bool false,.slice none 0 0,.slice none 0 0] 119 [.bool false,.slice none 0 0,.slice none 0 0];rw [show(w9.alloc (Obj.cells #[.bool false,.slice none 0 0,.slice none 0 0] 119)).alloc (Obj.cells #[.bool false,.slice none 0 0,.slice none 0 0] 119)=V from hV.symm];clear hV A9 B9 ZV;have y:=y9.trans xV;have hp9:=hp5.ext y;have hq9:=Ve.ext y;have XV:Ext w V:=X5.trans y;have AV:=A5.ext y;have BV:=B5.ext y;have hpz:oB 0≤2:=by decide+kernel
 have hqz:oB (mkRat 9 2)≤2:=by decide+kernel
 have hSg: ∀U,Ext V U→Calls prog 74 #[.agg #[.bool p.s,.slice p.a p.k p.c,.slice p.b p.j p.d]] U fun e w'=>e= .returned (.int .i64 0)∧Ext U w':=by
  intro U hU;have hr:=hp9.ext hU;have hs:=hr.short hpz;have h5:=ES U p.s _ _ _ _ _ _ _ _ hr.num hr.den (by omega) (by omega);rw [hr.s,jY,Rat.mkRat_self]at h5;rw [hr.s];exact h5
 have hCm: ∀U,Ext V U→ ∀(r:ct) (B:Nat),cT U r (mkRat 9 2) B→Calls prog 75 #[.agg #[.bool q.s,.slice q.a q.k q.c,.slice q.b q.j q.d],.agg #[.bool r.s,.slice r.a r.k r.c,.slice r.b r.j r.d]] U fun e w'=>e= .returned (.int .i64 0)∧Ext U w':=by
  intro U hU r B hr;have MG:=hq9.ext hU;have s1:=MG.short hqz;have s2:=hr.short hqz;have h5:=DM U q.s _ _ _ _ _ _ _ _ MG.num MG.den r.s _ _ _ _ _ _ _ _ hr.num hr.den (by omega) (by omega) (by omega) (by omega);rw [MG.s,jY,Rat.mkRat_self,hr.s,jY,Rat.mkRat_self,n9.2 rfl]at h5;rw [MG.s,hr.s];exact h5
 have JQ: ∀U,Ext V U→U.cell? ⟨w4.heap.size,0,none⟩=some (.bool p.s)∧U.cell? ⟨w4.heap.size,1,none⟩=some (.slice p.a p.k p.c)∧U.cell? ⟨w4.heap.size,2,none⟩=some (.slice p.b p.j p.d)∧U.cell? ⟨w4.heap.size+1,0,none⟩=some (.bool q.s)∧U.cell? ⟨w4.heap.size+1,1,none⟩=some (.slice q.a q.k q.c)∧U.cell? ⟨w4.heap.size+1,2,none⟩=some (.slice q.b q.j q.d):=fun U hU=>by
  obtain ⟨k0,k1,k2,-,-,-⟩:=aC AV hU;obtain ⟨m0,m1,m2,-,-,-⟩:=aC BV hU;exact ⟨k0,k1,k2,m0,m1,m2⟩
 have HSg:=ae hSg;have HCm:=ae hCm;have vL:=ae JQ
 have v0:Ext V V.drew:=(Ext.refl _).drew;clear hSg hCm JQ hp9 hq9 AV BV hp5 Ve A5 B5;refine dW (S:=fun w'=>w'.cell? ⟨w4.heap.size,0,none⟩=some (.bool p.s)∧w'.cell? ⟨w4.heap.size,1,none⟩=some (.slice p.a p.k p.c)∧w'.cell? ⟨w4.heap.size,2,none⟩=some (.slice p.b p.j p.d)∧w'.cell? ⟨w4.heap.size+1,0,none⟩=some (.bool q.s)∧w'.cell? ⟨w4.heap.size+1,1,none⟩=some (.slice q.a q.k q.c)∧w'.cell? ⟨w4.heap.size+1,2,none⟩=some (.slice q.b q.j q.d)) (fun i=>false) (by kernel_rfl) (vL.o _ v0) (fun aq=> ?_);refine bT 0 aq ?_;refine bT 1 aq ?_;refine bT 2 aq ?_;refine bT 3 aq ?_;refine bT 4 aq ?_;refine bT 5 aq ?_;refine bT 6 aq ?_ (v:= .agg #[.bool p.s,.slice p.a p.k p.c,.slice p.b p.j p.d]);refine bZ (rs:= [7]) (by kernel_rfl) (by simp) ?_;refine aU.cons rfl (fun Kc hK=> ?_) aU.nil;go_simp;refine (HSg.o _ v0).mono ?_;rintro e z1 ⟨rfl,y1⟩;have v1:=v0.trans y1;refine hK.o _ _ (vL.o _ v1) (fun aq=> ?_);clear hK Kc;try simp only [sS]
 refine bT 8 aq ?_;refine bT 9 aq ?_;refine bT 10 aq ?_;refine bT 11 aq ?_ (v:= .agg #[.bool q.s,.slice q.a q.k q.c,.slice q.b q.j q.d]);refine bZ (rs:= [12]) (by kernel_rfl) (by simp) ?_;refine aU.cons rfl (fun Kc hK=> ?_) aU.nil;go_simp;refine (Je z1 9 2 (by omega) (by omega) (by omega)).mono ?_;intro e z2 hN;obtain ⟨r5,rfl,LD,y2⟩:=hN.qp;clear hN;have v2:=v1.trans y2;refine hK.o _ _ (vL.o _ v2) (fun aq=> ?_);clear hK Kc;try simp only [sS]
 refine bZ (rs:= [13]) (by kernel_rfl) (by simp) ?_;refine aU.cons rfl (fun Kc hK=> ?_) aU.nil;go_simp;refine (HCm.o _ v2 _ _ LD).mono ?_;rintro e z3 ⟨rfl,y3⟩;have v3:=v2.trans y3;refine hK.o _ _ (vL.o _ v3) (fun aq=> ?_);clear hK Kc;try simp only [sS]
 refine bT 14 aq ?_;refine bT 15 aq ?_;refine bT 16 aq ?_;refine dV (by kernel_rfl) ?_ _;go_wp2_with fail
 go_ret;exact ⟨rfl,XV.trans v3⟩
theorem J4 (bK f g:Nat→Int) (k:Int) (l:List Nat):kq bK (fun i=>f i-g i) k l=kq bK f k l-kq bK g k l:=by
 induction l with
 |nil=>simp [kq]
 |cons i l ih=>unfold kq;rw [ih];split<;>omega
structure Inside (n:Nat) (MF v lo hi:Nat→Int):Prop where
 box: ∀i,i<n→lo i≤v i∧v i≤hi i
 zero: ∀k,kq MF v k (List.range n)=0
theorem Inside.qI {n:Nat} {MF v lo hi:Nat→Int} (h:Inside n MF v lo hi) (k:Int):dG lo MF n k=kq MF (fun i=>v i-lo i) k (List.range n):=by
 rw [J4,h.zero];unfold dG;omega
def three (σ:Int→Int):List Value:= [.int .i64 (σ 0),.int .i64 (σ 1),.int .i64 (σ 2)]
end Go.Proofs.YtkpngkdgphojlaaGreat
