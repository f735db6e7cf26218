/- Texts of the proof. -/
import Derived.Test.YtkpngkdgphojlaaGreatCc25
set_option linter.all false
namespace Go.Proofs.YtkpngkdgphojlaaGreat
open Go.RowKit
theorem Tryz.info_plan:(Tryz.prog.info? 201).map (fun i=>(i.zero,i.size,i.bytes))=some (some (.agg #[.slice none 0 0,.slice none 0 0,.slice none 0 0]),3,72):=by kernel_rfl
theorem Tryz.info_rats:(Tryz.prog.info? 122).map (fun i=>(i.zero,i.size,i.bytes))=some (some (.slice none 0 0),1,24):=by kernel_rfl
theorem aH.base {w:World} {B B':Nat} {e:TypeId} {m:Nat} {v:Value} {rows:List (List Value)} (h:aH w B e m v rows) (hb:B'≤B):aH w B' e m v rows:=⟨pO h.own hb,h.len⟩
def jn:List Value:= [.slice none 0 0,.slice none 0 0,.slice none 0 0,.slice none 0 0,.slice none 0 0,.slice none 0 0,.slice none 0 0,.slice none 0 0]
set_option maxHeartbeats 4000000 in
set_option maxRecDepth 100000 in
theorem BZ (V:World) (rv os:Value) (ba la ua sa ta:Option Addr) (bc lc uc sc tc:Nat):
 Calls Tryz.prog 154 #[.agg #[i64 1,rv,.slice ba 1 bc,.slice la 0 lc,.slice ua 1 uc,.slice sa 0 sc,.slice ta 0 tc,os]] V fun e w'=> ∃(ga:Option Addr) (gc:Nat) (v2:Value),e= .returned (.agg #[.slice ga 1 gc,.slice none 0 0,.slice none 0 0,.slice none 0 0,.slice none 0 0,v2,.slice none 0 0,.slice none 0 0])∧(∃row,aH w' V.heap.size 201 3 (.slice ga 1 gc) [row])∧v2.oneCell'=true∧Ext V w':=by
 have HZ:Hid (∀U,Calls Tryz.prog 182 #[i64 1] U fun e w'=> ∃ux:List fj,ux.length=1∧e= .returned (.slice (some ⟨U.heap.size,0,none⟩) 1 1)∧aG w' U.heap.size 119 (dF ux)∧(∀k (hk:k<ux.length),iF w' ux[k] 0 (U.heap.size+1))∧Ext U w'):=ae (fun U=>El U 1 (by decide));have NB: ∀w,(Instr.makeSlice 22 (.int .i64 1) (.int .i64 1)).run Tryz.prog w= .ok (.slice (some ⟨w.heap.size,0,none⟩) 1 1) (w.alloc (.cells #[i64 0] 3)):=fun w=>Ej 1 (by decide) w;go_enter Tryz.func154,Tryz.ntmps154
 go_upto_region 2 with fail
 obtain ⟨W0,hW,x0,Z0,A0,A1,A2⟩:=ik V 32 [i64 1,rv,.slice ba 1 bc,.slice la 0 lc,.slice ua 1 uc,.slice sa 0 sc,.slice ta 0 tc,os] 153 jn 153 jn;rw [show((V.alloc (.cells #[i64 1,rv,.slice ba 1 bc,.slice la 0 lc,.slice ua 1 uc,.slice sa 0 sc,.slice ta 0 tc,os] 32)).alloc (.cells #[.slice none 0 0,.slice none 0 0,.slice none 0 0,.slice none 0 0,.slice none 0 0,.slice none 0 0,.slice none 0 0,.slice none 0 0] 153)).alloc (.cells #[.slice none 0 0,.slice none 0 0,.slice none 0 0,.slice none 0 0,.slice none 0 0,.slice none 0 0,.slice none 0 0,.slice none 0 0] 153)=W0 from hW.symm];obtain ⟨C,hC⟩: ∃C,C=V.heap.size:=⟨_,rfl⟩;obtain ⟨R,hR⟩: ∃R,R=C+1:=⟨_,rfl⟩;obtain ⟨S,hS⟩: ∃S,S=C+2:=⟨_,rfl⟩;rw [←hC]at A0 A1 A2⊢;rw [←hR]at A1⊢;rw [←hS]at A2;first|rw [←hS]|rw [show R+1=S by omega]
 have nE:Hid (C≠S∧R≠S∧V.heap.size≤S∧V.heap.size≤R∧R<S+1):=by(show _∧_∧_∧_∧_;omega)
 have HC:=ae A0;have HR:=ae A1;have HS:=ae A2;have HX:=ae x0
 clear hW A0 A1 A2 x0 Z0 hC hR hS
 go_upto_block 0 with fail
 go_cut [] (fun wx=> ∃(g1:Option Addr) (k1:Nat),aG wx C 32 [i64 1,rv,.slice ba 1 bc,.slice la 0 lc,.slice ua 1 uc,.slice sa 0 sc,.slice ta 0 tc,os]∧aG wx R 153 jn∧aG wx S 153 [.slice g1 1 k1,.slice none 0 0,.slice none 0 0,.slice none 0 0,.slice none 0 0,.slice none 0 0,.slice none 0 0,.slice none 0 0]∧(∃row,aH wx (S+1) 201 3 (.slice g1 1 k1) [row])∧Ext V wx)
 case first=>
  as_aux_lemma=>
   go_wp2_with fail
   refine wp_loop_rounds 2 ?_;rw [rounds_succ];have k0:=HC.out.cl 4 (.slice ua 1 uc) rfl;go_upto_region 5 with fail
   clear k0;refine ay (fun w'=>w'.cell? ⟨C,0,none⟩=some (i64 1)) (fun w'=>w'.cell? ⟨S,0,none⟩=some (.slice none 0 0)) (fun i=>i==15) (by kernel_rfl) ((HC.out.cell 0).trans rfl) ((HS.out.cell 0).trans rfl) (fun ar ah=> ?_);refine av 0 (.pointer (some ⟨S,0,none⟩)) rfl ar ah ?_;simp only [sS];refine cK (i:=1) (v:= .slice none 0 0) rfl (by kernel_rfl) (by kernel_rfl) (by kernel_rfl) (by kernel_rfl) (by kernel_rfl) (by kernel_rfl) (fun _ _ _ h=>h) (Or.inl ⟨by rfl,fun w hSw=>by(obtain ⟨hSw,qA⟩:=hSw;have e0:=hSw;have d0:=qA;go_simp)⟩) ar ah ?_;try simp only [sS]
   refine av 2 (.pointer (some ⟨C,0,none⟩)) rfl ar ah ?_;simp only [sS];refine av 3 (i64 1) rfl ar ah ?_;simp only [sS];refine av 5 (.pointer (some ⟨C,0,none⟩)) rfl ar ah ?_;simp only [sS];refine av 6 (i64 1) rfl ar ah ?_;simp only [sS];refine av 8 (.pointer (some ⟨C,0,none⟩)) rfl ar ah ?_;simp only [sS];refine av 9 (i64 1) rfl ar ah ?_;simp only [sS];obtain ⟨Y0,qJ⟩: ∃Y0,Y0=W0.drew:=⟨_,rfl⟩;have hx:Ext W0 Y0:=by rw [qJ];exact (Ext.refl W0).drew
   rw [←qJ];have HC:=ae (HC.out.ext hx);have HR:=ae (HR.out.ext hx);have HS:=ae (HS.out.ext hx);have HX:=ae (HX.out.trans hx)
   clear hx qJ;refine aZ (rs:= [4,7]) (by kernel_rfl) (by simp) ?_;refine aD.cons rfl (fun Kc hK=> ?_) (aD.cons rfl (fun Kc hK=> ?_) aD.nil)
   ·go_simp
    obtain ⟨Y1,pD,xa,-,-⟩:=aB Y0 3 [i64 0];rw [show Y0.alloc (.cells #[i64 0] 3)=Y1 from pD.symm];have HC:=ae (HC.out.ext xa);have HR:=ae (HR.out.ext xa);have HS:=ae (HS.out.ext xa);have HX:=ae (HX.out.trans xa)
    clear xa pD;refine hK.out _ _ ((HC.out.cell 0).trans rfl) ((HS.out.cell 0).trans rfl) (fun ar ah=> ?_);clear hK Kc;try simp only [sS]
    refine cG 7 rfl (fun Kc hK=> ?_);go_simp;refine (HZ.out Y1).mono ?_;rintro e Y2 ⟨-,-,rfl,-,-,hx⟩;have h_a:=hx.size;have HC:=ae (HC.out.ext hx);have HR:=ae (HR.out.ext hx);have HS:=ae (HS.out.ext hx);have HX:=ae (HX.out.trans hx)
    clear hx;refine hK.out _ _ ((HC.out.cell 0).trans rfl) ((HS.out.cell 0).trans rfl) (fun ar ah=> ?_);clear hK Kc;try simp only [sS]
    refine cG 10 rfl (fun Kc hK=> ?_);go_simp;refine (HZ.out Y2).mono ?_;rintro e Y3 ⟨-,-,rfl,-,-,hx⟩;have Zm:=hx.size;have HC:=ae (HC.out.ext hx);have HR:=ae (HR.out.ext hx);have HS:=ae (HS.out.ext hx);have HX:=ae (HX.out.trans hx)
    clear hx;refine hK.out _ _ ((HC.out.cell 0).trans rfl) ((HS.out.cell 0).trans rfl) (fun ar ah=> ?_);clear hK Kc;try simp only [sS]
    refine av 11 (.agg #[.slice (some ⟨Y0.heap.size,0,none⟩) 1 1,.slice (some ⟨Y1.heap.size,0,none⟩) 1 1,.slice (some ⟨Y2.heap.size,0,none⟩) 1 1]) rfl ar ah ?_;simp only [sS];refine cG 12 rfl (fun Kc hK=> ?_);rw [if_pos (by rfl)];refine cH 149 (.tmp 27) rfl 201 (.agg #[.slice none 0 0,.slice none 0 0,.slice none 0 0]) 3 72 Tryz.underlying149 Tryz.info_plan (by decide) (by decide) [.slice (some ⟨Y0.heap.size,0,none⟩) 1 1,.slice (some ⟨Y1.heap.size,0,none⟩) 1 1,.slice (some ⟨Y2.heap.size,0,none⟩) 1 1] rfl rfl ?_;intro Y4 kV hx;have n_:=ae kV;have HC:=ae (HC.out.ext hx);have HR:=ae (HR.out.ext hx);have HS:=ae (HS.out.ext hx);have HX:=ae (HX.out.trans hx)
    clear kV hx;refine hK.out _ _ ((HC.out.cell 0).trans rfl) ((HS.out.cell 0).trans rfl) (fun ar ah=> ?_);clear hK Kc;try simp only [sS]
    refine cG 13 rfl (fun Kc hK=> ?_);rw [if_pos (by rfl)];refine fI _ (.tmp 17) (.tmp 28) 149 rfl Y4.heap.size 201 (.agg #[.slice none 0 0,.slice none 0 0,.slice none 0 0]) 3 72 Tryz.underlying149 Tryz.info_plan rfl (by decide) (.slice none 0 0) 0 [] rfl (aH.nil Y4 _ _ _).own (some ⟨Y3.heap.size,0,none⟩) 1 1 [.slice (some ⟨Y0.heap.size,0,none⟩) 1 1,.slice (some ⟨Y1.heap.size,0,none⟩) 1 1,.slice (some ⟨Y2.heap.size,0,none⟩) 1 1] rfl rfl ?c112 ?c113 ?c114 (by decide) (by decide) (Nat.le_refl _) ?abV (by decide)
    case c112=>exact fun _=>⟨_,rfl,n_.out.adds⟩
    case c113=>intro u hu;simp only [List.mem_cons,List.not_mem_nil,or_false]at hu;rcases hu with rfl|rfl|rfl<;>rfl
    case c114=>intro e;cases e
    intro v1 Y9 ho he hb hz hv;obtain ⟨g1,k1,nB⟩:=fc ho.out;replace nB:v1= .slice g1 1 k1:=nB;subst nB;have hx:Ext Y4 Y9:=he.out Y4 (Ext.refl _) (Nat.le_refl _);have Em:=(aH.nil Y4 Y4.heap.size 201 3).snoc (w':=Y9) (v':= .slice g1 1 k1) (r:= [.slice (some ⟨Y0.heap.size,0,none⟩) 1 1,.slice (some ⟨Y1.heap.size,0,none⟩) 1 1,.slice (some ⟨Y2.heap.size,0,none⟩) 1 1]) rfl ho.out;have HO:Hid (∃row,aH Y9 (S+1) 201 3 (.slice g1 1 k1) [row]):=⟨_,Em.base HS.out.lt⟩;clear ho he hb hz hv Em n_;have HC:=ae (HC.out.ext hx);have HR:=ae (HR.out.ext hx);have HS:=ae (HS.out.ext hx);have HX:=ae (HX.out.trans hx)
    clear hx;refine hK.out _ _ ((HC.out.cell 0).trans rfl) ((HS.out.cell 0).trans rfl) (fun ar ah=> ?_);clear hK Kc;try simp only [sS]
    refine av 14 (.pointer (some ⟨S,0,none⟩)) rfl ar ah ?_;simp only [sS];refine aZ (rs:= [15]) (by kernel_rfl) (by simp) ?_;refine aD.late rfl (by kernel_rfl) (fun Kc hK=> ?_) aD.nil;have f0:=HS.out.frozen 0;have d0:=HS.out.cl 0 (.slice none 0 0) rfl;go_simp;refine hK.out _ _ ((HC.out.other ⟨S,0,none⟩ _ nE.out.1.symm).cell 0|>.trans rfl) (fun ar=> ?_);clear hK Kc;try simp only [sS]
    refine ax (by kernel_rfl) ?_ _;clear ar;have mb:=(ak.refl S Y9).et (o:=0) (v:= .slice g1 1 k1);have uy:=ae (HC.out.but mb nE.out.1);have o0:=ae (HR.out.but mb nE.out.2.1);have nX:=ae (HS.out.set 0 (.slice g1 1 k1));have dC:=ae (mb.ext HX.out nE.out.2.2.1);obtain ⟨row,hrow⟩:=HO.out;have pn:=ae (hrow.but mb (Nat.lt_succ_self S));clear mb HC HR HS HX HO hrow;generalize (Y9.setCell ⟨S,0,none⟩ (.slice g1 1 k1))=RN at*;go_wp2_with fail
    rw [rounds_succ];have k0:=uy.out.cl 4 (.slice ua 1 uc) rfl;go_wp2_with fail
    go_meet
    exact ⟨g1,k1,uy.out,o0.out,nX.out,⟨_,pn.out⟩,dC.out⟩
   ·go_simp
    refine (HZ.out Y0).mono ?_;rintro e Y1 ⟨-,-,rfl,-,-,hx⟩;have h_a:=hx.size;have HC:=ae (HC.out.ext hx);have HR:=ae (HR.out.ext hx);have HS:=ae (HS.out.ext hx);have HX:=ae (HX.out.trans hx)
    clear hx;refine hK.out _ _ ((HC.out.cell 0).trans rfl) ((HS.out.cell 0).trans rfl) (fun ar ah=> ?_);clear hK Kc;try simp only [sS]
    refine aZ (rs:= [4,10]) (by kernel_rfl) (by simp) ?_;refine aD.cons rfl (fun Kc hK=> ?_) (aD.cons rfl (fun Kc hK=> ?_) aD.nil)
    ·go_simp
     obtain ⟨Y2,pD,xa,-,-⟩:=aB Y1 3 [i64 0];rw [show Y1.alloc (.cells #[i64 0] 3)=Y2 from pD.symm];have HC:=ae (HC.out.ext xa);have HR:=ae (HR.out.ext xa);have HS:=ae (HS.out.ext xa);have HX:=ae (HX.out.trans xa)
     clear xa pD;refine hK.out _ _ ((HC.out.cell 0).trans rfl) ((HS.out.cell 0).trans rfl) (fun ar ah=> ?_);clear hK Kc;try simp only [sS]
     refine cG 10 rfl (fun Kc hK=> ?_);go_simp;refine (HZ.out Y2).mono ?_;rintro e Y3 ⟨-,-,rfl,-,-,hx⟩;have Zm:=hx.size;have HC:=ae (HC.out.ext hx);have HR:=ae (HR.out.ext hx);have HS:=ae (HS.out.ext hx);have HX:=ae (HX.out.trans hx)
     clear hx;refine hK.out _ _ ((HC.out.cell 0).trans rfl) ((HS.out.cell 0).trans rfl) (fun ar ah=> ?_);clear hK Kc;try simp only [sS]
     refine av 11 (.agg #[.slice (some ⟨Y1.heap.size,0,none⟩) 1 1,.slice (some ⟨Y0.heap.size,0,none⟩) 1 1,.slice (some ⟨Y2.heap.size,0,none⟩) 1 1]) rfl ar ah ?_;simp only [sS];refine cG 12 rfl (fun Kc hK=> ?_);rw [if_pos (by rfl)];refine cH 149 (.tmp 27) rfl 201 (.agg #[.slice none 0 0,.slice none 0 0,.slice none 0 0]) 3 72 Tryz.underlying149 Tryz.info_plan (by decide) (by decide) [.slice (some ⟨Y1.heap.size,0,none⟩) 1 1,.slice (some ⟨Y0.heap.size,0,none⟩) 1 1,.slice (some ⟨Y2.heap.size,0,none⟩) 1 1] rfl rfl ?_;intro Y4 kV hx;have n_:=ae kV;have HC:=ae (HC.out.ext hx);have HR:=ae (HR.out.ext hx);have HS:=ae (HS.out.ext hx);have HX:=ae (HX.out.trans hx)
     clear kV hx;refine hK.out _ _ ((HC.out.cell 0).trans rfl) ((HS.out.cell 0).trans rfl) (fun ar ah=> ?_);clear hK Kc;try simp only [sS]
     refine cG 13 rfl (fun Kc hK=> ?_);rw [if_pos (by rfl)];refine fI _ (.tmp 17) (.tmp 28) 149 rfl Y4.heap.size 201 (.agg #[.slice none 0 0,.slice none 0 0,.slice none 0 0]) 3 72 Tryz.underlying149 Tryz.info_plan rfl (by decide) (.slice none 0 0) 0 [] rfl (aH.nil Y4 _ _ _).own (some ⟨Y3.heap.size,0,none⟩) 1 1 [.slice (some ⟨Y1.heap.size,0,none⟩) 1 1,.slice (some ⟨Y0.heap.size,0,none⟩) 1 1,.slice (some ⟨Y2.heap.size,0,none⟩) 1 1] rfl rfl ?c122 ?c123 ?c124 (by decide) (by decide) (Nat.le_refl _) ?abW (by decide)
     case c122=>exact fun _=>⟨_,rfl,n_.out.adds⟩
     case c123=>intro u hu;simp only [List.mem_cons,List.not_mem_nil,or_false]at hu;rcases hu with rfl|rfl|rfl<;>rfl
     case c124=>intro e;cases e
     intro v1 Y9 ho he hb hz hv;obtain ⟨g1,k1,nB⟩:=fc ho.out;replace nB:v1= .slice g1 1 k1:=nB;subst nB;have hx:Ext Y4 Y9:=he.out Y4 (Ext.refl _) (Nat.le_refl _);have Em:=(aH.nil Y4 Y4.heap.size 201 3).snoc (w':=Y9) (v':= .slice g1 1 k1) (r:= [.slice (some ⟨Y1.heap.size,0,none⟩) 1 1,.slice (some ⟨Y0.heap.size,0,none⟩) 1 1,.slice (some ⟨Y2.heap.size,0,none⟩) 1 1]) rfl ho.out;have HO:Hid (∃row,aH Y9 (S+1) 201 3 (.slice g1 1 k1) [row]):=⟨_,Em.base HS.out.lt⟩;clear ho he hb hz hv Em n_;have HC:=ae (HC.out.ext hx);have HR:=ae (HR.out.ext hx);have HS:=ae (HS.out.ext hx);have HX:=ae (HX.out.trans hx)
     clear hx;refine hK.out _ _ ((HC.out.cell 0).trans rfl) ((HS.out.cell 0).trans rfl) (fun ar ah=> ?_);clear hK Kc;try simp only [sS]
     refine av 14 (.pointer (some ⟨S,0,none⟩)) rfl ar ah ?_;simp only [sS];refine aZ (rs:= [15]) (by kernel_rfl) (by simp) ?_;refine aD.late rfl (by kernel_rfl) (fun Kc hK=> ?_) aD.nil;have f0:=HS.out.frozen 0;have d0:=HS.out.cl 0 (.slice none 0 0) rfl;go_simp;refine hK.out _ _ ((HC.out.other ⟨S,0,none⟩ _ nE.out.1.symm).cell 0|>.trans rfl) (fun ar=> ?_);clear hK Kc;try simp only [sS]
     refine ax (by kernel_rfl) ?_ _;clear ar;have mb:=(ak.refl S Y9).et (o:=0) (v:= .slice g1 1 k1);have uy:=ae (HC.out.but mb nE.out.1);have o0:=ae (HR.out.but mb nE.out.2.1);have nX:=ae (HS.out.set 0 (.slice g1 1 k1));have dC:=ae (mb.ext HX.out nE.out.2.2.1);obtain ⟨row,hrow⟩:=HO.out;have pn:=ae (hrow.but mb (Nat.lt_succ_self S));clear mb HC HR HS HX HO hrow;generalize (Y9.setCell ⟨S,0,none⟩ (.slice g1 1 k1))=RN at*;go_wp2_with fail
     rw [rounds_succ];have k0:=uy.out.cl 4 (.slice ua 1 uc) rfl;go_wp2_with fail
     go_meet
     exact ⟨g1,k1,uy.out,o0.out,nX.out,⟨_,pn.out⟩,dC.out⟩
    ·go_simp
     refine (HZ.out Y1).mono ?_;rintro e Y2 ⟨-,-,rfl,-,-,hx⟩;have Zm:=hx.size;have HC:=ae (HC.out.ext hx);have HR:=ae (HR.out.ext hx);have HS:=ae (HS.out.ext hx);have HX:=ae (HX.out.trans hx)
     clear hx;refine hK.out _ _ ((HC.out.cell 0).trans rfl) ((HS.out.cell 0).trans rfl) (fun ar ah=> ?_);clear hK Kc;try simp only [sS]
     refine cG 4 rfl (fun Kc hK=> ?_);go_simp;obtain ⟨Y3,pD,xa,-,-⟩:=aB Y2 3 [i64 0];rw [show Y2.alloc (.cells #[i64 0] 3)=Y3 from pD.symm];have HC:=ae (HC.out.ext xa);have HR:=ae (HR.out.ext xa);have HS:=ae (HS.out.ext xa);have HX:=ae (HX.out.trans xa)
     clear xa pD;refine hK.out _ _ ((HC.out.cell 0).trans rfl) ((HS.out.cell 0).trans rfl) (fun ar ah=> ?_);clear hK Kc;try simp only [sS]
     refine av 11 (.agg #[.slice (some ⟨Y2.heap.size,0,none⟩) 1 1,.slice (some ⟨Y0.heap.size,0,none⟩) 1 1,.slice (some ⟨Y1.heap.size,0,none⟩) 1 1]) rfl ar ah ?_;simp only [sS];refine cG 12 rfl (fun Kc hK=> ?_);rw [if_pos (by rfl)];refine cH 149 (.tmp 27) rfl 201 (.agg #[.slice none 0 0,.slice none 0 0,.slice none 0 0]) 3 72 Tryz.underlying149 Tryz.info_plan (by decide) (by decide) [.slice (some ⟨Y2.heap.size,0,none⟩) 1 1,.slice (some ⟨Y0.heap.size,0,none⟩) 1 1,.slice (some ⟨Y1.heap.size,0,none⟩) 1 1] rfl rfl ?_;intro Y4 kV hx;have n_:=ae kV;have HC:=ae (HC.out.ext hx);have HR:=ae (HR.out.ext hx);have HS:=ae (HS.out.ext hx);have HX:=ae (HX.out.trans hx)
     clear kV hx;refine hK.out _ _ ((HC.out.cell 0).trans rfl) ((HS.out.cell 0).trans rfl) (fun ar ah=> ?_);clear hK Kc;try simp only [sS]
     refine cG 13 rfl (fun Kc hK=> ?_);rw [if_pos (by rfl)];refine fI _ (.tmp 17) (.tmp 28) 149 rfl Y4.heap.size 201 (.agg #[.slice none 0 0,.slice none 0 0,.slice none 0 0]) 3 72 Tryz.underlying149 Tryz.info_plan rfl (by decide) (.slice none 0 0) 0 [] rfl (aH.nil Y4 _ _ _).own (some ⟨Y3.heap.size,0,none⟩) 1 1 [.slice (some ⟨Y2.heap.size,0,none⟩) 1 1,.slice (some ⟨Y0.heap.size,0,none⟩) 1 1,.slice (some ⟨Y1.heap.size,0,none⟩) 1 1] rfl rfl ?c132 ?c133 ?c134 (by decide) (by decide) (Nat.le_refl _) ?abX (by decide)
     case c132=>exact fun _=>⟨_,rfl,n_.out.adds⟩
     case c133=>intro u hu;simp only [List.mem_cons,List.not_mem_nil,or_false]at hu;rcases hu with rfl|rfl|rfl<;>rfl
     case c134=>intro e;cases e
     intro v1 Y9 ho he hb hz hv;obtain ⟨g1,k1,nB⟩:=fc ho.out;replace nB:v1= .slice g1 1 k1:=nB;subst nB;have hx:Ext Y4 Y9:=he.out Y4 (Ext.refl _) (Nat.le_refl _);have Em:=(aH.nil Y4 Y4.heap.size 201 3).snoc (w':=Y9) (v':= .slice g1 1 k1) (r:= [.slice (some ⟨Y2.heap.size,0,none⟩) 1 1,.slice (some ⟨Y0.heap.size,0,none⟩) 1 1,.slice (some ⟨Y1.heap.size,0,none⟩) 1 1]) rfl ho.out;have HO:Hid (∃row,aH Y9 (S+1) 201 3 (.slice g1 1 k1) [row]):=⟨_,Em.base HS.out.lt⟩;clear ho he hb hz hv Em n_;have HC:=ae (HC.out.ext hx);have HR:=ae (HR.out.ext hx);have HS:=ae (HS.out.ext hx);have HX:=ae (HX.out.trans hx)
     clear hx;refine hK.out _ _ ((HC.out.cell 0).trans rfl) ((HS.out.cell 0).trans rfl) (fun ar ah=> ?_);clear hK Kc;try simp only [sS]
     refine av 14 (.pointer (some ⟨S,0,none⟩)) rfl ar ah ?_;simp only [sS];refine aZ (rs:= [15]) (by kernel_rfl) (by simp) ?_;refine aD.late rfl (by kernel_rfl) (fun Kc hK=> ?_) aD.nil;have f0:=HS.out.frozen 0;have d0:=HS.out.cl 0 (.slice none 0 0) rfl;go_simp;refine hK.out _ _ ((HC.out.other ⟨S,0,none⟩ _ nE.out.1.symm).cell 0|>.trans rfl) (fun ar=> ?_);clear hK Kc;try simp only [sS]
     refine ax (by kernel_rfl) ?_ _;clear ar;have mb:=(ak.refl S Y9).et (o:=0) (v:= .slice g1 1 k1);have uy:=ae (HC.out.but mb nE.out.1);have o0:=ae (HR.out.but mb nE.out.2.1);have nX:=ae (HS.out.set 0 (.slice g1 1 k1));have dC:=ae (mb.ext HX.out nE.out.2.2.1);obtain ⟨row,hrow⟩:=HO.out;have pn:=ae (hrow.but mb (Nat.lt_succ_self S));clear mb HC HR HS HX HO hrow;generalize (Y9.setCell ⟨S,0,none⟩ (.slice g1 1 k1))=RN at*;go_wp2_with fail
     rw [rounds_succ];have k0:=uy.out.cl 4 (.slice ua 1 uc) rfl;go_wp2_with fail
     go_meet
     exact ⟨g1,k1,uy.out,o0.out,nX.out,⟨_,pn.out⟩,dC.out⟩
 case rest=>
  obtain ⟨g1,k1,hC,hR,hS,hO,hX⟩:=hcut;generalize wc=W1 at*;clear HC HR HS HX;have HC:=ae hC;have HR:=ae hR;have HS:=ae hS;have HX:=ae hX;have HO:=ae hO
  clear hC hR hS hX hO;have k5:=HC.out.cl 5 (.slice sa 0 sc) rfl;have k6:=HC.out.cl 6 (.slice ta 0 tc) rfl;have k2:=HC.out.cl 2 (.slice ba 1 bc) rfl;go_wp2_with fail
  refine wp_loop_rounds 1 ?_;rw [rounds_succ];go_wp2_with fail
  refine wp_loop_rounds 1 ?_;rw [rounds_succ];go_wp2_with fail
  refine wp_loop_rounds 2 ?_;rw [rounds_succ];go_upto_region 17 with fail
  clear k5 k6 k2;refine ay (fun w'=>w'.cell? ⟨C,0,none⟩=some (i64 1)) (fun w'=>w'.cell? ⟨S,5,none⟩=some (.slice none 0 0)) (fun i=>i==8) (by kernel_rfl) ((HC.out.cell 0).trans rfl) ((HS.out.cell 5).trans rfl) (fun ar ah=> ?_);refine av 0 (.pointer (some ⟨S,5,none⟩)) rfl ar ah ?_;simp only [sS];refine cK (i:=1) (v:= .slice none 0 0) rfl (by kernel_rfl) (by kernel_rfl) (by kernel_rfl) (by kernel_rfl) (by kernel_rfl) (by kernel_rfl) (fun _ _ _ h=>h) (Or.inl ⟨by rfl,fun w hSw=>by(obtain ⟨hSw,qA⟩:=hSw;have e0:=hSw;have d0:=qA;go_simp)⟩) ar ah ?_;try simp only [sS]
  refine av 2 (.pointer (some ⟨C,0,none⟩)) rfl ar ah ?_;simp only [sS];refine av 3 (i64 1) rfl ar ah ?_;simp only [sS];obtain ⟨Y0,qJ⟩: ∃Y0,Y0=W1.drew:=⟨_,rfl⟩;have hx:Ext W1 Y0:=by rw [qJ];exact (Ext.refl W1).drew
  rw [←qJ];have HC:=ae (HC.out.ext hx);have HR:=ae (HR.out.ext hx);have HS:=ae (HS.out.ext hx);have HX:=ae (HX.out.trans hx)
  have HO:Hid (∃row,aH Y0 (S+1) 201 3 (.slice g1 1 k1) [row]):=by obtain ⟨row,hrow⟩:=HO.out;exact ⟨row,hrow.ext hx⟩
  clear hx qJ;refine cG 4 rfl (fun Kc hK=> ?_);go_simp;refine (HZ.out Y0).mono ?_;rintro e Y1 ⟨-,-,rfl,-,-,hx⟩;have h_z:=hx.size;have HC:=ae (HC.out.ext hx);have HR:=ae (HR.out.ext hx);have HS:=ae (HS.out.ext hx);have HX:=ae (HX.out.trans hx)
  have HO:Hid (∃row,aH Y1 (S+1) 201 3 (.slice g1 1 k1) [row]):=by obtain ⟨row,hrow⟩:=HO.out;exact ⟨row,hrow.ext hx⟩
  clear hx;refine hK.out _ _ ((HC.out.cell 0).trans rfl) ((HS.out.cell 5).trans rfl) (fun ar ah=> ?_);clear hK Kc;try simp only [sS]
  refine cG 5 rfl (fun Kc hK=> ?_);go_simp;obtain ⟨Y2,pD,xa,-,AA⟩:=aB Y1 122 [.slice (some ⟨Y0.heap.size,0,none⟩) 1 1];rw [show Y1.alloc (.cells #[.slice (some ⟨Y0.heap.size,0,none⟩) 1 1] 122)=Y2 from pD.symm];have n_:=ae AA;have HC:=ae (HC.out.ext xa);have HR:=ae (HR.out.ext xa);have HS:=ae (HS.out.ext xa);have HX:=ae (HX.out.trans xa)
  have HO:Hid (∃row,aH Y2 (S+1) 201 3 (.slice g1 1 k1) [row]):=by obtain ⟨row,hrow⟩:=HO.out;exact ⟨row,hrow.ext xa⟩
  clear xa pD AA;refine hK.out _ _ ((HC.out.cell 0).trans rfl) ((HS.out.cell 5).trans rfl) (fun ar ah=> ?_);clear hK Kc;try simp only [sS]
  refine cG 6 rfl (fun Kc hK=> ?_);rw [if_pos (by rfl)];refine fI _ (.tmp 85) (.tmp 89) 150 rfl Y2.heap.size 122 (.slice none 0 0) 1 24 Tryz.underlying150 Tryz.info_rats rfl (by decide) (.slice none 0 0) 0 [] rfl (aH.nil Y2 _ _ _).own (some ⟨Y1.heap.size,0,none⟩) 1 1 [.slice (some ⟨Y0.heap.size,0,none⟩) 1 1] rfl rfl ?c142 ?c143 ?c144 (by decide) (by decide) (Nat.le_refl _) ?abY (by decide)
  case c142=>exact fun _=>⟨_,rfl,n_.out.adds⟩
  case c143=>intro u hu;rw [List.mem_singleton]at hu;subst hu;rfl
  case c144=>intro e;cases e
  intro v1 Y9 ho he hb hz hv;obtain ⟨g2,k2,nB⟩:=fc ho.out;replace nB:v1= .slice g2 1 k2:=nB;subst nB;have hx:Ext Y2 Y9:=he.out Y2 (Ext.refl _) (Nat.le_refl _);clear ho he hb hz hv n_;have HC:=ae (HC.out.ext hx);have HR:=ae (HR.out.ext hx);have HS:=ae (HS.out.ext hx);have HX:=ae (HX.out.trans hx)
  have HO:Hid (∃row,aH Y9 (S+1) 201 3 (.slice g1 1 k1) [row]):=by obtain ⟨row,hrow⟩:=HO.out;exact ⟨row,hrow.ext hx⟩
  clear hx;refine hK.out _ _ ((HC.out.cell 0).trans rfl) ((HS.out.cell 5).trans rfl) (fun ar ah=> ?_);clear hK Kc;try simp only [sS]
  refine av 7 (.pointer (some ⟨S,5,none⟩)) rfl ar ah ?_;simp only [sS];refine aZ (rs:= [8]) (by kernel_rfl) (by simp) ?_;refine aD.late rfl (by kernel_rfl) (fun Kc hK=> ?_) aD.nil;have f0:=HS.out.frozen 5;have d0:=HS.out.cl 5 (.slice none 0 0) rfl;go_simp;refine hK.out _ _ ((HC.out.other ⟨S,5,none⟩ _ nE.out.1.symm).cell 0|>.trans rfl) (fun ar=> ?_);clear hK Kc;try simp only [sS]
  refine ax (by kernel_rfl) ?_ _;clear ar;have mb:=(ak.refl S Y9).et (o:=5) (v:= .slice g2 1 k2);have uy:=ae (HC.out.but mb nE.out.1);have o0:=ae (HR.out.but mb nE.out.2.1);have nX:=ae (HS.out.set 5 (.slice g2 1 k2));have dC:=ae (mb.ext HX.out nE.out.2.2.1);obtain ⟨row,hrow⟩:=HO.out;have pn:=ae (hrow.but mb (Nat.lt_succ_self S));clear mb HC HR HS HX HO hrow d0 f0;generalize (Y9.setCell ⟨S,5,none⟩ (.slice g2 1 k2))=RN at*;go_wp2_with fail
  rw [rounds_succ];have kb2:=uy.out.cl 2 (.slice ba 1 bc) rfl;have k3:=uy.out.cl 3 (.slice la 0 lc) rfl;go_wp2_with fail
  refine wp_loop_rounds 1 ?_;rw [rounds_succ];have hSL: ∀j v,[Value.slice g1 1 k1,.slice none 0 0,.slice none 0 0,.slice none 0 0,.slice none 0 0,.slice g2 1 k2,.slice none 0 0,.slice none 0 0][j]?=some v→RN.cell? ((⟨S,0,none⟩:Addr).add j)=some v:=fun j v hj=>by rw [dP,nX.out.cell j];exact hj
  go_wp2_with (first|(refine aQ rfl 153 _ rfl ⟨S,0,none⟩ rfl [Value.slice g1 1 k1,.slice none 0 0,.slice none 0 0,.slice none 0 0,.slice none 0 0,.slice g2 1 k2,.slice none 0 0,.slice none 0 0] _ hSL rfl rfl (by kernel_rfl) ?_)|(refine bF rfl 153 _ _ rfl R jn [Value.slice g1 1 k1,.slice none 0 0,.slice none 0 0,.slice none 0 0,.slice none 0 0,.slice g2 1 k2,.slice none 0 0,.slice none 0 0] o0.out rfl rfl (by kernel_rfl) rfl rfl ?_;intro xh jP dO))
  exact bodyPost_ret (v:= .agg #[Value.slice g1 1 k1,.slice none 0 0,.slice none 0 0,.slice none 0 0,.slice none 0 0,.slice g2 1 k2,.slice none 0 0,.slice none 0 0]) (fo 2 _ rfl rfl jP rfl rfl (by kernel_rfl)) rfl ⟨g1,k1,_,rfl,⟨row,(pn.out.but dO (by have:=nE.out;omega)).base (by have:=nE.out;omega)⟩,rfl,dO.ext dC.out nE.out.2.2.2.1⟩
end Go.Proofs.YtkpngkdgphojlaaGreat
