/- Texts of the proof. -/
import Derived.Test.YtbnamicbjaaelaaGreatCg29
import Derived.Test.YtbnamicbjaaelaaGreatCg35
set_option linter.all false
set_option maxHeartbeats 4000000
set_option maxRecDepth 100000
namespace Go.Proofs.YtbnamicbjaaelaaGreat
open Go.Proofs.Tryz
open Go.RowKit
theorem Tryz.info_plan:(Tryz.prog.info? 182).map (λi=>(i.zero,i.size,i.bytes))=some (some (.agg #[.slice none 0 0,.slice none 0 0,.slice none 0 0]),3,72):=ax
theorem Tryz.info_rats:(Tryz.prog.info? 46).map (λi=>(i.zero,i.size,i.bytes))=some (some (.slice none 0 0),1,24):=ax
theorem aL.base {w:World} {B B':Nat} {e:TypeId} {m:Nat} {v:Value} {rows:List (List Value)} (h:aL w B e m v rows) (hb:B'<=B):aL w B' e m v rows:=⟨Bl h.own hb,h.len⟩
def kB:List Value:= [.slice none 0 0,.slice none 0 0,.slice none 0 0,.slice none 0 0,.slice none 0 0,.slice none 0 0,.slice none 0 0,.slice none 0 0]
theorem once {P G:Prop} (h:Hid P->G) (t:P):G:=h t
theorem Gs (V:World) (rv os:Value) (ba la ua sa ta:Option Addr) (bc lc uc sc tc:Nat):
 Calls prog 135 #[.agg #[i64 1,rv,.slice ba 1 bc,.slice la 0 lc,.slice ua 1 uc,.slice sa 0 sc,.slice ta 0 tc,os]] V λe w'=> ∃(ga:Option Addr) (gc:Nat) (v2:Value),e= .returned (.agg #[.slice ga 1 gc,.slice none 0 0,.slice none 0 0,.slice none 0 0,.slice none 0 0,v2,.slice none 0 0,.slice none 0 0])/\(∃row,aL w' V.heap.size 182 3 (.slice ga 1 gc) [row])/\v2.oneCell'=true/\Ext V w':=by
 have HZ:Hid (∀U,Calls prog 161 #[i64 1] U λe w'=> ∃yz:List cH,yz.length=1/\e= .returned (.slice (some ⟨U.heap.size,0,none⟩) 1 1)/\aT w' U.heap.size 92 (gY yz)/\(∀k (hk:k<yz.length),fQ w' yz[k] 0 (U.heap.size+1))/\Ext U w'):=ah (λU=>JJ U 1 aq);have SG: ∀w,(Instr.makeSlice 22 (.int .i64 1) (.int .i64 1)).run prog w= .ok (.slice (some ⟨w.heap.size,0,none⟩) 1 1) (w.alloc (.cells #[i64 0] 3)):=λw=>IL 1 aq w;go_enter func135,ntmps135
 go_upto_region 2 with fail
 obtain ⟨W0,hW,x0,Z0,A0,A1,A2⟩:=fC V 32 [i64 1,rv,.slice ba 1 bc,.slice la 0 lc,.slice ua 1 uc,.slice sa 0 sc,.slice ta 0 tc,os] 136 kB 136 kB;rw [show((V.alloc (.cells #[i64 1,rv,.slice ba 1 bc,.slice la 0 lc,.slice ua 1 uc,.slice sa 0 sc,.slice ta 0 tc,os] 32)).alloc (.cells #[.slice none 0 0,.slice none 0 0,.slice none 0 0,.slice none 0 0,.slice none 0 0,.slice none 0 0,.slice none 0 0,.slice none 0 0] 136)).alloc (.cells #[.slice none 0 0,.slice none 0 0,.slice none 0 0,.slice none 0 0,.slice none 0 0,.slice none 0 0,.slice none 0 0,.slice none 0 0] 136)=W0 from hW.symm];obtain ⟨C,hC⟩: ∃C,C=V.heap.size:=⟨_,rfl⟩;obtain ⟨R,hR⟩: ∃R,R=C+1:=⟨_,rfl⟩;obtain ⟨S,hS⟩: ∃S,S=C+2:=⟨_,rfl⟩;rw [<-hC]at A0 A1 A2⊢;rw [<-hR]at A1⊢;rw [<-hS]at A2;first|rw [<-hS]|rw [show R+1=S by omega]
 have Ct:Hid (C≠S/\R≠S/\V.heap.size<=S/\V.heap.size<=R/\R<S+1):=by(show _/\_/\_/\_/\_;omega)
 have HC:=ah A0;have HR:=ah A1;have HS:=ah A2;have HX:=ah x0
 clear hW A0 A1 A2 x0 Z0 hC hR hS
 go_upto_block 0 with fail
 go_cut [] (λwx=> ∃(g1:Option Addr) (k1:Nat),aT wx C 32 [i64 1,rv,.slice ba 1 bc,.slice la 0 lc,.slice ua 1 uc,.slice sa 0 sc,.slice ta 0 tc,os]/\aT wx R 136 kB/\aT wx S 136 [.slice g1 1 k1,.slice none 0 0,.slice none 0 0,.slice none 0 0,.slice none 0 0,.slice none 0 0,.slice none 0 0,.slice none 0 0]/\(∃row,aL wx (S+1) 182 3 (.slice g1 1 k1) [row])/\Ext V wx)
 case first=>
  as_aux_lemma=>
   go_wp2_with fail
   refine wp_loop_rounds 2 ?_;rw [rounds_succ];have k0:=HC.o.cl 4 (.slice ua 1 uc) rfl;go_upto_region 5 with fail
   clear k0;refine aO (λw'=>w'.cell? ⟨C,0,none⟩=some (i64 1)) (λw'=>w'.cell? ⟨S,0,none⟩=some (.slice none 0 0)) (λi=>i==15) ax ((HC.o.cell 0).trans rfl) ((HS.o.cell 0).trans rfl) (λaD ai=> ?_);refine aJ 0 aD ai ?_;refine GL 1 aD ai ?_;refine aJ 2 aD ai ?_;refine aJ 3 aD ai ?_ (v:=i64 1);refine aJ 5 aD ai ?_;refine aJ 6 aD ai ?_ (v:=i64 1);refine aJ 8 aD ai ?_;refine aJ 9 aD ai ?_ (v:=i64 1);obtain ⟨Y0,Gt⟩: ∃Y0,Y0=W0.drew:=⟨_,rfl⟩;have hx:Ext W0 Y0:=by rw [Gt];exact (Ext.refl W0).drew
   rw [<-Gt];have HC:=ah (HC.o.ext hx);have HR:=ah (HR.o.ext hx);have HS:=ah (HS.o.ext hx);have HX:=ah (HX.o.trans hx)
   clear hx Gt;apply once
   case h=>
    intro key;refine bH (rs:= [4,7]) ax aG ?_;refine aQ.cons rfl (λKc hK=> ?_) (aQ.cons rfl (λKc hK=> ?_) aQ.nil)
    .go_simp
     obtain ⟨Y1,sV,xa,-,-⟩:=aV Y0 3 [i64 0];rw [show Y0.alloc (.cells #[i64 0] 3)=Y1 from sV.symm];have HC:=ah (HC.o.ext xa);have HR:=ah (HR.o.ext xa);have HS:=ah (HS.o.ext xa);have HX:=ah (HX.o.trans xa)
     clear xa sV;refine hK.o _ _ ((HC.o.cell 0).trans rfl) ((HS.o.cell 0).trans rfl) (λaD ai=> ?_);clear hK Kc;try simp only [sS]
     refine eI 7 rfl (λKc hK=> ?_);go_simp;refine (HZ.o Y1).mono ?_;rintro e Y2 ⟨-,-,rfl,-,-,hx⟩;have h_a:=hx.size;have HC:=ah (HC.o.ext hx);have HR:=ah (HR.o.ext hx);have HS:=ah (HS.o.ext hx);have HX:=ah (HX.o.trans hx)
     clear hx;refine hK.o _ _ ((HC.o.cell 0).trans rfl) ((HS.o.cell 0).trans rfl) (λaD ai=> ?_);clear hK Kc;try simp only [sS]
     refine eI 10 rfl (λKc hK=> ?_);go_simp;refine (HZ.o Y2).mono ?_;rintro e Y3 ⟨-,-,rfl,-,-,hx⟩;have Xw:=hx.size;have HC:=ah (HC.o.ext hx);have HR:=ah (HR.o.ext hx);have HS:=ah (HS.o.ext hx);have HX:=ah (HX.o.trans hx)
     clear hx;refine hK.o _ _ ((HC.o.cell 0).trans rfl) ((HS.o.cell 0).trans rfl) (λaD ai=> ?_);clear hK Kc;try simp only [sS]
     refine aJ 11 aD ai ?_ (v:= .agg #[.slice (some ⟨Y0.heap.size,0,none⟩) 1 1,.slice (some ⟨Y1.heap.size,0,none⟩) 1 1,.slice (some ⟨Y2.heap.size,0,none⟩) 1 1]);generalize Y0.heap.size=n4;generalize Y1.heap.size=n7;generalize Y2.heap.size=n10
     (try clear Xw)
     clear aD ai
     revert HX
     revert HS
     revert HR
     revert HC
     revert n10
     revert n7
     revert n4
     revert Y3
     exact key.o
    .go_simp
     refine (HZ.o Y0).mono ?_;rintro e Y1 ⟨-,-,rfl,-,-,hx⟩;have h_a:=hx.size;have HC:=ah (HC.o.ext hx);have HR:=ah (HR.o.ext hx);have HS:=ah (HS.o.ext hx);have HX:=ah (HX.o.trans hx)
     clear hx;refine hK.o _ _ ((HC.o.cell 0).trans rfl) ((HS.o.cell 0).trans rfl) (λaD ai=> ?_);clear hK Kc;try simp only [sS]
     refine bH (rs:= [4,10]) ax aG ?_;refine aQ.cons rfl (λKc hK=> ?_) (aQ.cons rfl (λKc hK=> ?_) aQ.nil)
     .go_simp
      obtain ⟨Y2,sV,xa,-,-⟩:=aV Y1 3 [i64 0];rw [show Y1.alloc (.cells #[i64 0] 3)=Y2 from sV.symm];have HC:=ah (HC.o.ext xa);have HR:=ah (HR.o.ext xa);have HS:=ah (HS.o.ext xa);have HX:=ah (HX.o.trans xa)
      clear xa sV;refine hK.o _ _ ((HC.o.cell 0).trans rfl) ((HS.o.cell 0).trans rfl) (λaD ai=> ?_);clear hK Kc;try simp only [sS]
      refine eI 10 rfl (λKc hK=> ?_);go_simp;refine (HZ.o Y2).mono ?_;rintro e Y3 ⟨-,-,rfl,-,-,hx⟩;have Xw:=hx.size;have HC:=ah (HC.o.ext hx);have HR:=ah (HR.o.ext hx);have HS:=ah (HS.o.ext hx);have HX:=ah (HX.o.trans hx)
      clear hx;refine hK.o _ _ ((HC.o.cell 0).trans rfl) ((HS.o.cell 0).trans rfl) (λaD ai=> ?_);clear hK Kc;try simp only [sS]
      refine aJ 11 aD ai ?_ (v:= .agg #[.slice (some ⟨Y1.heap.size,0,none⟩) 1 1,.slice (some ⟨Y0.heap.size,0,none⟩) 1 1,.slice (some ⟨Y2.heap.size,0,none⟩) 1 1]);generalize Y1.heap.size=n4;generalize Y0.heap.size=n7;generalize Y2.heap.size=n10
      (try clear Xw)
      clear aD ai
      revert HX
      revert HS
      revert HR
      revert HC
      revert n10
      revert n7
      revert n4
      revert Y3
      exact key.o
     .go_simp
      refine (HZ.o Y1).mono ?_;rintro e Y2 ⟨-,-,rfl,-,-,hx⟩;have Xw:=hx.size;have HC:=ah (HC.o.ext hx);have HR:=ah (HR.o.ext hx);have HS:=ah (HS.o.ext hx);have HX:=ah (HX.o.trans hx)
      clear hx;refine hK.o _ _ ((HC.o.cell 0).trans rfl) ((HS.o.cell 0).trans rfl) (λaD ai=> ?_);clear hK Kc;try simp only [sS]
      refine eI 4 rfl (λKc hK=> ?_);go_simp;obtain ⟨Y3,sV,xa,-,-⟩:=aV Y2 3 [i64 0];rw [show Y2.alloc (.cells #[i64 0] 3)=Y3 from sV.symm];have HC:=ah (HC.o.ext xa);have HR:=ah (HR.o.ext xa);have HS:=ah (HS.o.ext xa);have HX:=ah (HX.o.trans xa)
      clear xa sV;refine hK.o _ _ ((HC.o.cell 0).trans rfl) ((HS.o.cell 0).trans rfl) (λaD ai=> ?_);clear hK Kc;try simp only [sS]
      refine aJ 11 aD ai ?_ (v:= .agg #[.slice (some ⟨Y2.heap.size,0,none⟩) 1 1,.slice (some ⟨Y0.heap.size,0,none⟩) 1 1,.slice (some ⟨Y1.heap.size,0,none⟩) 1 1]);generalize Y2.heap.size=n4;generalize Y0.heap.size=n7;generalize Y1.heap.size=n10
      (try clear Xw)
      clear aD ai
      revert HX
      revert HS
      revert HR
      revert HC
      revert n10
      revert n7
      revert n4
      revert Y3
      exact key.o
   case t=>
    intro Y3 n4 n7 n10 HC HR HS HX;refine eI 12 rfl (λKc hK=> ?_);rw [if_pos eN];refine dM 133 (.tmp 27) rfl 182 (.agg #[.slice none 0 0,.slice none 0 0,.slice none 0 0]) 3 72 underlying133 Tryz.info_plan aq aq [.slice (some ⟨n4,0,none⟩) 1 1,.slice (some ⟨n7,0,none⟩) 1 1,.slice (some ⟨n10,0,none⟩) 1 1] rfl rfl ?_;intro Y4 tA hx;have Am:=ah tA;have HC:=ah (HC.o.ext hx);have HR:=ah (HR.o.ext hx);have HS:=ah (HS.o.ext hx);have HX:=ah (HX.o.trans hx)
    clear tA hx;refine hK.o _ _ ((HC.o.cell 0).trans rfl) ((HS.o.cell 0).trans rfl) (λaD ai=> ?_);clear hK Kc;try simp only [sS]
    refine eI 13 rfl (λKc hK=> ?_);rw [if_pos eN];refine i6 _ (.tmp 17) (.tmp 28) 133 rfl Y4.heap.size 182 (.agg #[.slice none 0 0,.slice none 0 0,.slice none 0 0]) 3 72 underlying133 Tryz.info_plan rfl aq (.slice none 0 0) 0 [] rfl (aL.nil Y4 _ _ _).own (some ⟨Y3.heap.size,0,none⟩) 1 1 [.slice (some ⟨n4,0,none⟩) 1 1,.slice (some ⟨n7,0,none⟩) 1 1,.slice (some ⟨n10,0,none⟩) 1 1] rfl rfl ?c112 ?c113 ?c114 aq aq bY ?aiO aq
    case c112=>exact λ_=>⟨_,rfl,Am.o.adds⟩
    case c113=>intro u hu;simp only [List.mem_cons,List.not_mem_nil,or_false]at hu;rcases hu with rfl|rfl|rfl<;>rfl
    case c114=>intro e;cases e
    intro v1 Y9 ho he hb hz hv;obtain ⟨g1,k1,tB⟩:=jn ho.o;replace tB:v1= .slice g1 1 k1:=tB;subst tB;have hx:Ext Y4 Y9:=he.o Y4 ar bY;have SH:=(aL.nil Y4 Y4.heap.size 182 3).snoc (w':=Y9) (v':= .slice g1 1 k1) (r:= [.slice (some ⟨n4,0,none⟩) 1 1,.slice (some ⟨n7,0,none⟩) 1 1,.slice (some ⟨n10,0,none⟩) 1 1]) rfl ho.o;have HO:Hid (∃row,aL Y9 (S+1) 182 3 (.slice g1 1 k1) [row]):=⟨_,SH.base HS.o.lt⟩;clear ho he hb hz hv SH Am;have HC:=ah (HC.o.ext hx);have HR:=ah (HR.o.ext hx);have HS:=ah (HS.o.ext hx);have HX:=ah (HX.o.trans hx)
    clear hx;refine hK.o _ _ ((HC.o.cell 0).trans rfl) ((HS.o.cell 0).trans rfl) (λaD ai=> ?_);clear hK Kc;try simp only [sS]
    refine aJ 14 aD ai ?_;refine bH (rs:= [15]) ax aG ?_;refine aQ.late rfl ax (λKc hK=> ?_) aQ.nil;have f0:=HS.o.frozen 0;have d0:=HS.o.cl 0 (.slice none 0 0) rfl;go_simp;refine hK.o _ _ ((HC.o.other ⟨S,0,none⟩ _ Ct.o.1.symm).cell 0|>.trans rfl) (λaD=> ?_);clear hK Kc;try simp only [sS]
    refine aI ax ?_ _;clear aD;have Gu:=(aB.refl S Y9).ez (o:=0) (v:= .slice g1 1 k1);have qM:=ah (HC.o.but Gu Ct.o.1);have nk:=ah (HR.o.but Gu Ct.o.2.1);have zT:=ah (HS.o.set 0 (.slice g1 1 k1));have eR:=ah (Gu.ext HX.o Ct.o.2.2.1);obtain ⟨row,hrow⟩:=HO.o;have Cp:=ah (hrow.but Gu (Nat.lt_succ_self S));clear Gu HC HR HS HX HO hrow;generalize (Y9.setCell ⟨S,0,none⟩ (.slice g1 1 k1))=Y10 at*;go_wp2_with fail
    rw [rounds_succ];have k0:=qM.o.cl 4 (.slice ua 1 uc) rfl;go_wp2
    go_meet
    exact ⟨g1,k1,qM.o,nk.o,zT.o,⟨_,Cp.o⟩,eR.o⟩
 case rest=>
  obtain ⟨g1,k1,hC,hR,hS,hO,hX⟩:=hcut;generalize wc=W1 at*;clear HC HR HS HX;have HC:=ah hC;have HR:=ah hR;have HS:=ah hS;have HX:=ah hX;have HO:=ah hO
  clear hC hR hS hX hO;have k5:=HC.o.cl 5 (.slice sa 0 sc) rfl;have k6:=HC.o.cl 6 (.slice ta 0 tc) rfl;have k2:=HC.o.cl 2 (.slice ba 1 bc) rfl;go_wp2_with fail
  refine wp_loop_rounds 1 ?_;rw [rounds_succ];go_wp2_with fail
  refine wp_loop_rounds 1 ?_;rw [rounds_succ];go_wp2_with fail
  refine wp_loop_rounds 2 ?_;rw [rounds_succ];go_upto_region 17 with fail
  clear k5 k6 k2;refine aO (λw'=>w'.cell? ⟨C,0,none⟩=some (i64 1)) (λw'=>w'.cell? ⟨S,5,none⟩=some (.slice none 0 0)) (λi=>i==8) ax ((HC.o.cell 0).trans rfl) ((HS.o.cell 5).trans rfl) (λaD ai=> ?_);refine aJ 0 aD ai ?_;refine GL 1 aD ai ?_;refine aJ 2 aD ai ?_;refine aJ 3 aD ai ?_ (v:=i64 1);obtain ⟨Y0,Gt⟩: ∃Y0,Y0=W1.drew:=⟨_,rfl⟩;have hx:Ext W1 Y0:=by rw [Gt];exact (Ext.refl W1).drew
  rw [<-Gt];have HC:=ah (HC.o.ext hx);have HR:=ah (HR.o.ext hx);have HS:=ah (HS.o.ext hx);have HX:=ah (HX.o.trans hx)
  have HO:Hid (∃row,aL Y0 (S+1) 182 3 (.slice g1 1 k1) [row]):=by obtain ⟨row,hrow⟩:=HO.o;exact ⟨row,hrow.ext hx⟩
  clear hx Gt;refine eI 4 rfl (λKc hK=> ?_);go_simp;refine (HZ.o Y0).mono ?_;rintro e Y1 ⟨-,-,rfl,-,-,hx⟩;have h_z:=hx.size;have HC:=ah (HC.o.ext hx);have HR:=ah (HR.o.ext hx);have HS:=ah (HS.o.ext hx);have HX:=ah (HX.o.trans hx)
  have HO:Hid (∃row,aL Y1 (S+1) 182 3 (.slice g1 1 k1) [row]):=by obtain ⟨row,hrow⟩:=HO.o;exact ⟨row,hrow.ext hx⟩
  clear hx;refine hK.o _ _ ((HC.o.cell 0).trans rfl) ((HS.o.cell 5).trans rfl) (λaD ai=> ?_);clear hK Kc;try simp only [sS]
  refine eI 5 rfl (λKc hK=> ?_);go_simp;obtain ⟨Y2,sV,xa,-,AA⟩:=aV Y1 46 [.slice (some ⟨Y0.heap.size,0,none⟩) 1 1];rw [show Y1.alloc (.cells #[.slice (some ⟨Y0.heap.size,0,none⟩) 1 1] 46)=Y2 from sV.symm];have Am:=ah AA;have HC:=ah (HC.o.ext xa);have HR:=ah (HR.o.ext xa);have HS:=ah (HS.o.ext xa);have HX:=ah (HX.o.trans xa)
  have HO:Hid (∃row,aL Y2 (S+1) 182 3 (.slice g1 1 k1) [row]):=by obtain ⟨row,hrow⟩:=HO.o;exact ⟨row,hrow.ext xa⟩
  clear xa sV AA;refine hK.o _ _ ((HC.o.cell 0).trans rfl) ((HS.o.cell 5).trans rfl) (λaD ai=> ?_);clear hK Kc;try simp only [sS]
  refine eI 6 rfl (λKc hK=> ?_);rw [if_pos eN];refine i6 _ (.tmp 85) (.tmp 89) 44 rfl Y2.heap.size 46 (.slice none 0 0) 1 24 underlying44 Tryz.info_rats rfl aq (.slice none 0 0) 0 [] rfl (aL.nil Y2 _ _ _).own (some ⟨Y1.heap.size,0,none⟩) 1 1 [.slice (some ⟨Y0.heap.size,0,none⟩) 1 1] rfl rfl ?c142 ?c143 ?c144 aq aq bY ?aiP aq
  case c142=>exact λ_=>⟨_,rfl,Am.o.adds⟩
  case c143=>intro u hu;rw [List.mem_singleton]at hu;subst hu;rfl
  case c144=>intro e;cases e
  intro v1 Y9 ho he hb hz hv;obtain ⟨g2,k2,tB⟩:=jn ho.o;replace tB:v1= .slice g2 1 k2:=tB;subst tB;have hx:Ext Y2 Y9:=he.o Y2 ar bY;clear ho he hb hz hv Am;have HC:=ah (HC.o.ext hx);have HR:=ah (HR.o.ext hx);have HS:=ah (HS.o.ext hx);have HX:=ah (HX.o.trans hx)
  have HO:Hid (∃row,aL Y9 (S+1) 182 3 (.slice g1 1 k1) [row]):=by obtain ⟨row,hrow⟩:=HO.o;exact ⟨row,hrow.ext hx⟩
  clear hx;refine hK.o _ _ ((HC.o.cell 0).trans rfl) ((HS.o.cell 5).trans rfl) (λaD ai=> ?_);clear hK Kc;try simp only [sS]
  refine aJ 7 aD ai ?_;refine bH (rs:= [8]) ax aG ?_;refine aQ.late rfl ax (λKc hK=> ?_) aQ.nil;have f0:=HS.o.frozen 5;have d0:=HS.o.cl 5 (.slice none 0 0) rfl;go_simp;refine hK.o _ _ ((HC.o.other ⟨S,5,none⟩ _ Ct.o.1.symm).cell 0|>.trans rfl) (λaD=> ?_);clear hK Kc;try simp only [sS]
  refine aI ax ?_ _;clear aD;have Gu:=(aB.refl S Y9).ez (o:=5) (v:= .slice g2 1 k2);have qM:=ah (HC.o.but Gu Ct.o.1);have nk:=ah (HR.o.but Gu Ct.o.2.1);have zT:=ah (HS.o.set 5 (.slice g2 1 k2));have eR:=ah (Gu.ext HX.o Ct.o.2.2.1);obtain ⟨row,hrow⟩:=HO.o;have Cp:=ah (hrow.but Gu (Nat.lt_succ_self S));clear Gu HC HR HS HX HO hrow d0 f0;generalize (Y9.setCell ⟨S,5,none⟩ (.slice g2 1 k2))=Y10 at*;go_wp2_with fail
  rw [rounds_succ];have kb2:=qM.o.cl 2 (.slice ba 1 bc) rfl;have k3:=qM.o.cl 3 (.slice la 0 lc) rfl;go_wp2_with fail
  refine wp_loop_rounds 1 ?_;rw [rounds_succ];have hSL: ∀j v,[Value.slice g1 1 k1,.slice none 0 0,.slice none 0 0,.slice none 0 0,.slice none 0 0,.slice g2 1 k2,.slice none 0 0,.slice none 0 0][j]?=some v->Y10.cell? ((⟨S,0,none⟩:Addr).add j)=some v:=λj v hj=>by rw [fj,zT.o.cell j];exact hj
  go_wp2_with (first|(refine br rfl 136 _ rfl ⟨S,0,none⟩ rfl [Value.slice g1 1 k1,.slice none 0 0,.slice none 0 0,.slice none 0 0,.slice none 0 0,.slice g2 1 k2,.slice none 0 0,.slice none 0 0] _ hSL rfl rfl ax ?_)|(refine cX rfl 136 _ _ rfl R kB [Value.slice g1 1 k1,.slice none 0 0,.slice none 0 0,.slice none 0 0,.slice none 0 0,.slice g2 1 k2,.slice none 0 0,.slice none 0 0] nk.o rfl rfl ax rfl rfl ?_;intro Ci my eW))
  exact bodyPost_ret (v:= .agg #[Value.slice g1 1 k1,.slice none 0 0,.slice none 0 0,.slice none 0 0,.slice none 0 0,.slice g2 1 k2,.slice none 0 0,.slice none 0 0]) (jo 2 _ rfl rfl my rfl rfl ax) rfl ⟨g1,k1,_,rfl,⟨row,(Cp.o.but eW (bA Ct.o)).base (bA Ct.o)⟩,rfl,eW.ext eR.o Ct.o.2.2.2.1⟩
