/- Texts of the proof. -/
import Derived.Shelf.SlSortCmp.NoneTotal
import Derived.Test.YtbnamicbjaaelaaGreatCg21
import Derived.Test.YtbnamicbjaaelaaGreatCg22
set_option linter.all false
set_option maxHeartbeats 2000000
set_option maxRecDepth 100000
namespace Go.Proofs
open Go.Shelf
def Tryz.sortL_ren:Go.Shelf.Ren:=⟨λ|6=>131|15=>160|14=>159|28=>186|29=>187|20=>178|21=>179|22=>180|23=>181|24=>182|25=>183|26=>184|27=>185|46=>196|47=>197|48=>198|49=>199|50=>200|57=>206|n=>n,λ|22=>22|24=>3|25=>107|3=>3|39=>103|0=>0|53=>142|55=>155|4=>4|46=>209|45=>208|50=>213|5=>5|9=>9|66=>226|70=>230|76=>236|77=>237|n=>n,λ|n=>n⟩
theorem Tryz.sortL:Go.Proofs.SlLaysF.n6 Tryz.prog Tryz.sortL_ren:={
 mixed:=by kernel_rfl,
 f6:=⟨Tryz.f131.name,by decide,Tryz.func131.trans (congrArg some (by kernel_rfl))⟩,
 f14:=⟨Tryz.f159.name,by decide,Tryz.func159.trans (congrArg some (by kernel_rfl))⟩,
 f15:=Tryz.func160.trans (congrArg some (by kernel_rfl)),
 f20:=⟨Tryz.f178.name,by decide,Tryz.func178.trans (congrArg some (by kernel_rfl))⟩,
 f21:=⟨Tryz.f179.name,by decide,Tryz.func179.trans (congrArg some (by kernel_rfl))⟩,
 f22:=⟨Tryz.f180.name,by decide,Tryz.func180.trans (congrArg some (by kernel_rfl))⟩,
 f23:=⟨Tryz.f181.name,by decide,Tryz.func181.trans (congrArg some (by kernel_rfl))⟩,
 f24:=⟨Tryz.f182.name,by decide,Tryz.func182.trans (congrArg some (by kernel_rfl))⟩,
 f25:=⟨Tryz.f183.name,by decide,Tryz.func183.trans (congrArg some (by kernel_rfl))⟩,
 f26:=⟨Tryz.f184.name,by decide,Tryz.func184.trans (congrArg some (by kernel_rfl))⟩,
 f27:=⟨Tryz.f185.name,by decide,Tryz.func185.trans (congrArg some (by kernel_rfl))⟩,
 f28:=Tryz.func186.trans (congrArg some (by kernel_rfl)),
 f29:=Tryz.func187.trans (congrArg some (by kernel_rfl)),
 f46:=⟨Tryz.f196.name,by decide,Tryz.func196.trans (congrArg some (by kernel_rfl))⟩,
 f47:=Tryz.func197.trans (congrArg some (by kernel_rfl)),
 f48:=Tryz.func198.trans (congrArg some (by kernel_rfl)),
 f49:=⟨Tryz.f199.name,by decide,Tryz.func199.trans (congrArg some (by kernel_rfl))⟩,
 f50:=⟨Tryz.f200.name,by decide,Tryz.func200.trans (congrArg some (by kernel_rfl))⟩,
 f57:=⟨Tryz.f206.name,by decide,Tryz.func206.trans (congrArg some (by kernel_rfl))⟩,
 t0:=Tryz.underlying0,
 a0:=Tryz.isAgg0,
 z0:=Tryz.sizeOf0,
 v0:=Tryz.zeroValue0,
 t3:=Tryz.underlying3,
 a3:=Tryz.isAgg3,
 z3:=Tryz.sizeOf3,
 v3:=Tryz.zeroValue3,
 t4:=Tryz.underlying4,
 a4:=Tryz.isAgg4,
 z4:=Tryz.sizeOf4,
 v4:=Tryz.zeroValue4,
 t5:=Tryz.underlying5,
 a5:=Tryz.isAgg5,
 z5:=Tryz.sizeOf5,
 v5:=Tryz.zeroValue5,
 t9:=Tryz.underlying9,
 a9:=Tryz.isAgg9,
 z9:=Tryz.sizeOf9,
 v9:=Tryz.zeroValue9,
 t22:=Tryz.underlying22,
 a22:=Tryz.isAgg22,
 z22:=Tryz.sizeOf22,
 v22:=Tryz.zeroValue22,
 a24:=Tryz.isAgg3,
 z24:=Tryz.sizeOf3,
 t25:=Tryz.underlying107,
 a25:=Tryz.isAgg107,
 z25:=Tryz.sizeOf107,
 v25:=Tryz.zeroValue107,
 t39:=Tryz.underlying103,
 a39:=Tryz.isAgg103,
 z39:=Tryz.sizeOf103,
 v39:=Tryz.zeroValue103,
 t45:=Tryz.underlying208,
 a45:=Tryz.isAgg208,
 z45:=Tryz.sizeOf208,
 v45:=Tryz.zeroValue208,
 t46:=Tryz.underlying209,
 a46:=Tryz.isAgg209,
 z46:=Tryz.sizeOf209,
 v46:=Tryz.zeroValue209,
 t50:=Tryz.underlying213,
 a50:=Tryz.isAgg213,
 z50:=Tryz.sizeOf213,
 v50:=Tryz.zeroValue213,
 t53:=Tryz.underlying142,
 a53:=Tryz.isAgg142,
 z53:=Tryz.sizeOf142,
 v53:=Tryz.zeroValue142,
 t55:=Tryz.underlying155,
 a55:=Tryz.isAgg155,
 z55:=Tryz.sizeOf155,
 v55:=Tryz.zeroValue155,
 t66:=Tryz.underlying226,
 a66:=Tryz.isAgg226,
 z66:=Tryz.sizeOf226,
 v66:=Tryz.zeroValue226,
 t70:=Tryz.underlying230,
 a70:=Tryz.isAgg230,
 z70:=Tryz.sizeOf230,
 v70:=Tryz.zeroValue230,
 t76:=Tryz.underlying236,
 a76:=Tryz.isAgg236,
 z76:=Tryz.sizeOf236,
 v76:=Tryz.zeroValue236,
 t77:=Tryz.underlying237,
 a77:=Tryz.isAgg237,
 z77:=Tryz.sizeOf237,
 v77:=Tryz.zeroValue237}
end Go.Proofs
namespace Go.Proofs.YtbnamicbjaaelaaGreat
open Go.Proofs.Tryz
open Go.RowKit
end Go.Proofs.YtbnamicbjaaelaaGreat
namespace Go.Proofs
open Go.Shelf
end Go.Proofs
namespace Go.Proofs.YtbnamicbjaaelaaGreat
open Go.Proofs.Tryz
open Go.RowKit Go.Sort Go.Shelf
theorem jH.keep {w w':World} {r:cH} {q:Rat} {L:Nat} {row:Option Nat} (h:jH w r q L) (hb: ∀k,k<w.heap.size->some k≠row->w'.heap[k]?=w.heap[k]?) (ho:qN r row):jH w' r q L:=by
 have key: ∀{a:Option Addr} {k c n:Nat},Raw w a k c n->(0<k-> ∀x,a=some x->some x.block≠row)->Raw w' a k c n:=by
  intro a k c n hr ho;obtain ⟨l,e1,e2,e3⟩:=hr;refine ⟨l,e1,e2,e3.le,e3.cap,e3.short,e3.Kq,e3.small,λi hi=> ?_⟩;obtain ⟨b',o,ha,hc⟩:=e3.cell i hi;refine ⟨b',o,ha,?_⟩;have hlt:=cY hc;unfold World.cell? at*;rw [hb _ hlt (ho ae ⟨b',o,none⟩ ha)];exact hc
 obtain ⟨n,m,g1,g2,g3⟩:=h;exact ⟨n,m,key g1 ho.1,key g2 ho.2,g3⟩
theorem qN.next {w:World} {r:cH} {q:Rat} {L:Nat} {v v':Value} (ho:qN r v.ownBlock) (h:jH w r q L) (hv:v'.ownBlock=v.ownBlock\/ ∃g,v'.ownBlock=some g/\w.heap.size<=g):qN r v'.ownBlock:=by
 obtain ⟨n,m,g1,g2,g3⟩:=h;rcases hv with hv|⟨g,hg,hs⟩
 .rw [hv];exact ho
 .rw [hg]
  constructor
  .intro hk x hx e;cases e;have:=g1.lt hk x hx;omega
  .intro hk x hx e;cases e;have:=g2.lt hk x hx;omega
open Go.ChangeShapes Go.WideShapes Go.ChangeAt
open Go.Deep
theorem jZ.but {w w':World} {r:cH} {q:Rat} {L F:Nat} (h:jZ w r q L) (x:aB F w w') (o:qN r (some F)):jZ w' r q L:=
 ⟨h.rat.keep (λk hk hne=>x.block k hk λe=>hne (by rw [e])) o,h.k,h.j⟩
theorem nM {w:World} {r:cH} {q:Rat} {B F:Nat} (h:fQ w r q B) (hB:F<B):qN r (some F):=
 ⟨λ_ p e g=>by have:=h.fa p e;cases g;omega,λ_ p e g=>by have:=h.fb p e;cases g;omega⟩
theorem jZ.off {w:World} {r:cH} {q:Rat} {L F:Nat} (h:jZ w r q L) (hF:w.heap.size<=F):qN r (some F):=by
 obtain ⟨⟨n,m,h1,h2,-⟩,-,-⟩:=h;exact ⟨λh0 p e g=>by have:=h1.lt h0 p e;cases g;omega,λh0 p e g=>by have:=h2.lt h0 p e;cases g;omega⟩
structure sJ where
 oa:Option Addr
 oc:Nat
 cb:Nat
 lim:cH
 least:cH
 ba:Option Addr
 bc:Nat
 bD:List Nat
def sJ.cells (f:sJ) (n:Nat) (need:Int):List Value:= [.slice f.oa n f.oc,.slice (some ⟨f.cb,0,none⟩) n n,i64 need,.bool f.lim.s,.slice f.lim.a f.lim.k f.lim.c,.slice f.lim.b f.lim.j f.lim.d,.bool f.least.s,.slice f.least.a f.least.k f.least.c,.slice f.least.b f.least.j f.least.d,.slice f.ba f.bD.length f.bc]
structure ko (F:Nat) (x:Nat->Rat) (r:cH) (a:Option Addr) (c:Nat) (l:List Nat) (L:Nat) (w:World):Prop where
 num:jZ w r (lN x l) L/\qN r (some F)
 ints:aS w a c (aR l)
 off: ∀p,a=some p->F<p.block
 nil:l= []->a=none/\c=0
theorem ko.but {F:Nat} {x:Nat->Rat} {r:cH} {a:Option Addr} {c:Nat} {l:List Nat} {L:Nat} {w w':World} (h:ko F x r a c l L w) (e:aB F w w'):ko F x r a c l L w':=
 ⟨⟨h.num.1.but e h.num.2,h.num.2⟩,h.ints.eH e λp hp=>bA (h.off p hp),h.off,h.nil⟩
theorem ko.mono {F:Nat} {x:Nat->Rat} {r:cH} {a:Option Addr} {c:Nat} {l:List Nat} {L M:Nat} {w:World} (h:ko F x r a c l L w) (e:L<=M):ko F x r a c l M w:=⟨⟨h.num.1.mono e,h.num.2⟩,h.ints,h.off,h.nil⟩
theorem ko.addr {F:Nat} {x:Nat->Rat} {r:cH} {a:Option Addr} {c:Nat} {l:List Nat} {L:Nat} {w:World} (h:ko F x r a c l L w) (hl:l≠ []): ∃b o,a=some ⟨b,o,none⟩:=by
 have h0:0<(aR l).length:=by rw [aN];exact List.length_pos_iff.2 hl
 obtain ⟨b,o,ha,-⟩:=h.ints.cell 0 h0;exact ⟨b,o,ha⟩
structure FS (F n:Nat) (x:Nat->Rat) (cap:Nat->Int) (need:Int) (f:sJ) (w:World):Prop where
 blk:aT w F 101 (f.cells n need)
 on:f.oc<=9223372036854775807/\n<=f.oc/\ ∀u,u<n-> ∃b o r,f.oa=some ⟨b,o,none⟩/\b≠F/\Cs w b (o+u*3) 0 r.cells/\jZ w r (x u) 4/\qN r (some F)
 cap:iC w f.cb cap n/\f.cb≠F
 lim:jZ w f.lim 1 1/\qN f.lim (some F)
 bD:f.bD≠ []->ko F x f.least f.ba f.bc f.bD 40 w
 nil:f.bD= []->f.ba=none/\f.bc=0
theorem FS.turn {F n:Nat} {x:Nat->Rat} {cap:Nat->Int} {need:Int} {f:sJ} {w w':World} (h:FS F n x cap need f w) (e:aB F w w') (g:sJ) (hg:g.oa=f.oa/\g.oc=f.oc/\g.cb=f.cb/\g.lim=f.lim) (hA:aT w' F 101 (g.cells n need)) (hs:g.bD≠ []->ko F x g.least g.ba g.bc g.bD 40 w') (hn:g.bD= []->g.ba=none/\g.bc=0):FS F n x cap need g w':=by
 obtain ⟨h1,h2,h3,h4⟩:=hg;refine ⟨hA,?_,?_,?_,hs,hn⟩
 .rw [h1,h2]
  refine ⟨h.on.1,h.on.2.1,λu hu=> ?_⟩;obtain ⟨b,o,r,q1,q2,q3,q4,q5⟩:=h.on.2.2 u hu;exact ⟨b,o,r,q1,q2,⟨bU q3.1 e q2,bU q3.2.1 e q2,bU q3.2.2.1 e q2,trivial⟩,q4.but e q5,q5⟩
 .rw [h3];exact ⟨h.cap.1.but e h.cap.2,h.cap.2⟩
 .rw [h4];exact ⟨h.lim.1.but e h.lim.2,h.lim.2⟩
theorem FS.ext {F n:Nat} {x:Nat->Rat} {cap:Nat->Int} {need:Int} {f:sJ} {w w':World} (h:FS F n x cap need f w) (e:Ext w w'):FS F n x cap need f w':=
 h.turn (e.but F) f ⟨rfl,rfl,rfl,rfl⟩ (h.blk.ext e) (λhb=>(h.bD hb).but (e.but F)) h.nil
theorem FS.init {F n cb oc:Nat} {need:Int} {W7 wr:World} {oa:Option Addr} {rs:List cH} {x:Nat->Rat} {cap:Nat->Int} {r1:cH} (hA:aT wr F 101 [.slice oa n oc,.slice (some ⟨cb,0,none⟩) n n,i64 need,.bool r1.s,.slice r1.a r1.k r1.c,.slice r1.b r1.j r1.d,.bool false,.slice none 0 0,.slice none 0 0,.slice none 0 0])
 (hO:aL wr (F+1) 92 3 (.slice oa n oc) (rs.map cH.cells)) (hn:rs.length=n) (hx:Ext W7 wr) (hF:F=W7.heap.size) (hq: ∀u (hu:u<rs.length),jZ W7 rs[u] (x u) 4) (hT:iC W7 cb cap n) (hl:jZ W7 r1 1 1):FS F n x cap need ⟨oa,oc,cb,r1,⟨false,none,0,0,none,0,0⟩,none,0,[]⟩ wr:=by
 obtain ⟨a,c,e,hr,hf⟩:=hO.recs aq;simp only [Value.slice.injEq]at e;obtain ⟨rfl,-,rfl⟩:=e;have h1:=hr.le;rw [List.length_map]at h1;refine ⟨hA,⟨hr.cap,(show n<=oc by omega),λu hu=> ?_⟩,⟨hT.ext hx,by have:=hT.lt;show cb≠F;omega⟩,⟨hl.ext hx,hl.off (Nat.le_of_eq hF.symm)⟩,λh=>absurd rfl h,λ_=>⟨rfl,rfl⟩⟩;have hu':u<rs.length:=ae;obtain ⟨b,o,ha,hc⟩:=hr.cs u hu';exact ⟨b,o,rs[u],ha,by have:F+1<=b:=hf _ ha;omega,hc,(hq u hu').ext hx,(hq u hu').off (Nat.le_of_eq hF.symm)⟩
theorem OC (V:World) (F n:Nat) (x:Nat->Rat) (cap:Nat->Int) (need:Int) (f:sJ) (h:FS F n x cap need f V) (r:cH) (a:Option Addr) (c:Nat) (l:List Nat) (L:Nat) (hL:L<=40) (hu:ko F x r a c l L V):
 Calls prog 91 #[.pointer (some ⟨F,0,none⟩),.slice a l.length c,.agg #[.bool r.s,.slice r.a r.k r.c,.slice r.b r.j r.d]] V λe w'=>e= .returned (.bool (decide (jL x l f.bD)))/\Ext V w':=by
 have C1:=ah (λU (hU:Ext V U)=>oM U r f.lim _ _ L 1 (hu.num.1.ext hU) (h.lim.1.ext hU) ae);have C2:=ah (λU (hU:Ext V U) (hb:f.bD≠ [])=>oM U r f.least _ _ L 40 (hu.num.1.ext hU) ((h.bD hb).num.1.ext hU) ae)
 have P1:(decide (0<=jJ (lN x l) 1)=true)↔1<=lN x l:=by
  rw [decide_eq_true_iff];have:= @vP (lN x l) 1;constructor
  .exact λh=>Rat.not_lt.1 λe=>by have:=this.2 e;omega
  .exact λh=>Int.not_lt.1 λe=>Rat.not_lt.2 h (this.1 e)
 have P2:= @vQ (lN x l) (lN x f.bD);have P3:= @AW (lN x l) (lN x f.bD)
 generalize jJ (lN x l) 1=z1 at C1 P1;generalize jJ (lN x l) (lN x f.bD)=z2 at C2 P2 P3
 have hw:decide (jL x l f.bD)=(decide (0<=z1)||(!(f.bD.isEmpty)&&(decide (0<z2)||(decide (z2=0)&&decide (f.bD.length<=l.length))))):=by
  rw [Bool.eq_iff_iff];simp only [jL,decide_eq_true_iff,Bool.or_eq_true,Bool.and_eq_true,P2,P3,Bool.not_eq_true',List.isEmpty_eq_false_iff,<-P1]
 generalize decide (jL x l f.bD)=bw at*;have HW:=ah hw;have hnil:=λw a n c=>Lib.run_eql_slice_nil w _ _ a n c 0 0 underlying22;have hA:=h.blk;have HN:=ah h.nil;have HS:=ah λhb=>(h.bD hb).addr hb
 have hle:=hu.ints.le;clear P1 P2 P3 hw h hu;go_enter func91,ntmps91
 go_upto_region 1 with fail
 generalize hW:World.alloc V _=W;obtain ⟨B,hB,x0,A0⟩:=bV hW;rw [<-hB];have G: ∀Y,Ext W Y->_:=λY e=>((hA.ext x0).ext e).cs;have K: ∀Y,Ext W Y->_:=λY e=>(A0.ext e).cs;simp only [Cs,sJ.cells,Nat.zero_add]at G K;have HX:=ah x0;clear hW hB x0 A0 hA;go_wp2_with fail
 refine wG (λw=>Ext W w) ((Ext.refl W).drew) λs=> ?_;generalize W.drew=Y at*;refine wV 0 s ?_;refine wV 1 s ?_;refine wV 2 s ?_;refine wV 3 s ?_;refine wV 4 s ?_;refine wR 5 λK' hK=> ?_;rw [if_pos eN];go_simp;refine (C1.o Y (HX.o.trans s)).mono ?_;rintro e w1 ⟨rfl,x1⟩;refine hK.o _ _ (s.trans x1) λs=> ?_;clear hK K' x1;refine wV 6 s ?_;refine wD ?_;by_cases q1:0<=z1
 .have t1:decide (0<=z1)=true:=decide_eq_true q1
  go_wp2
  go_ret;exact ⟨by rw [HW.o,decide_eq_true q1];rfl,HX.o.trans s⟩
 have t1:decide (0<=z1)=false:=decide_eq_false q1;rw [t1]at HW;by_cases q2:f.bD= []
 .rw [q2]at HW G
  rw [(HN.o q2).1,(HN.o q2).2]at G;go_wp2
  go_ret;exact ⟨by rw [HW.o];rfl,HX.o.trans s⟩
 obtain ⟨b,o,Ty⟩:=HS.o q2;rw [Ty]at G;have HC:=ah (λU hU=>C2.o U hU q2);have q3:f.bD.isEmpty=false:=List.isEmpty_eq_false_iff.2 q2;rw [q3]at HW;clear q2 q3 C1 C2 HN HS Ty;go_wp2_with fail
 refine wG (λw=>Ext W w) s.drew λs=> ?_;generalize w1.drew=Y at*;refine wV 0 s ?_;refine wV 1 s ?_;refine wV 2 s ?_;refine wV 3 s ?_;refine wV 4 s ?_;refine wR 5 λK' hK=> ?_;rw [if_pos eN];go_simp;refine (HC.o Y (HX.o.trans s)).mono ?_;rintro e w2 ⟨rfl,x1⟩;refine hK.o _ _ (s.trans x1) λs=> ?_;clear hK K' x1;refine wV 6 s ?_;refine wD ?_;by_cases q1:0<z2
 .have t2:decide (0<z2)=true:=decide_eq_true q1
  go_wp2
  go_ret;exact ⟨by rw [HW.o,t2];rfl,HX.o.trans s⟩
 have t2:decide (0<z2)=false:=decide_eq_false q1;rw [t2]at HW;by_cases q1:z2=0
 .have t3:(z2==0)=true:=beq_iff_eq.2 q1
  rw [decide_eq_true q1]at HW;by_cases q1:f.bD.length<=l.length
  .have t4:(f.bD.length:Int)<=(l.length:Int):=ae
   rw [decide_eq_true q1]at HW;go_wp2
   go_ret;exact ⟨by rw [HW.o];rfl,HX.o.trans s⟩
  .have t4: ¬(f.bD.length:Int)<=(l.length:Int):=ae
   rw [decide_eq_false q1]at HW;go_wp2
   go_ret;exact ⟨by rw [HW.o];rfl,HX.o.trans s⟩
 .have t3:(z2==0)=false:=beq_eq_false_iff_ne.2 q1
  rw [decide_eq_false q1]at HW;go_wp2
  go_ret;exact ⟨by rw [HW.o];rfl,HX.o.trans s⟩
