/- Texts of the proof. -/
import Derived.Test.YtkpngkdgphojlaaGreatCd46
set_option linter.all false
set_option maxHeartbeats 40000000
set_option maxRecDepth 100000
namespace Go.Proofs.YtkpngkdgphojlaaGreat
open Go.Proofs.Tryz
open Go.RowKit
theorem LX (V:World) (a:Option Addr) (c:Nat) (l:List Int) (hl:aD V a c l):
 Calls prog 10 #[.slice a l.length c] V fun e w'=> ∃(hh nb:Nat) (x:ai),e= .returned (.agg x.cells.toArray)∧aS w' x∧fI hh nb x∧cV x=0∧dN (fun b=>V.heap.size≤b) x∧Ext V w':=by
 have HL:=ae hl;clear hl;go_enter func10,ntmps10
 go_upto_region 1 with fail
 obtain ⟨W0,hW,x0,Z0,A0⟩:=aH V 32 Bd.cells;rw [show V.alloc (.cells #[i64 0,.slice none 0 0,.slice none 0 0,.slice none 0 0,.slice none 0 0,.slice none 0 0,.slice none 0 0,.slice none 0 0] 32)=W0 from hW.symm];obtain ⟨R,hR⟩: ∃R,R=V.heap.size:=⟨_,rfl⟩;rw [←hR]at A0⊢;have Yv:W0.heap.size=V.heap.size+1:=by rw [hW];simp
 have HR:=ae A0;have HX:=ae x0
 clear hW Z0 A0 x0;go_wp2_with fail
 refine (Ii W0 a c l).mono ?_;rintro e W1 ⟨rfl,hT,hx⟩;obtain ⟨T,R1⟩: ∃T,T=W0.heap.size:=⟨_,rfl⟩;rw [←R1]at hT⊢;have p9:R≠T:=by omega
 have mU:Hid (V.heap.size≤T∧V.heap.size≤R):=by show _∧_;omega
 have HT:=ae hT;replace HX:=ae (HX.o.trans hx);replace HR:=ae (HR.o.ext hx)
 have fL:=ae (eW.of V V T a c l mU.o.1 (Ext.refl V) HL.o);clear R1 hT hx Yv hR;go_wp2_with fail
 refine (fL.o W1 3 (HX.o.but T) HT.o (by decide) (by decide)).mono ?_;rintro e W2 ⟨hv,rfl,Yw,hT,hx⟩;replace HR:=ae (HR.o.but hx p9);replace HX:=ae (hx.ext HX.o mU.o.1);replace HT:=ae hT
 clear hT hx;obtain ⟨hh,hhe⟩: ∃hh:Nat,1+hv=(hh:Int):=⟨(1+hv).toNat,by omega⟩;have HH:Hid (1≤hh∧hh≤3):=by show _∧_;omega
 have q1:IntKind.i64.wrap (1+hv)=(hh:Int):=by rw [IntKind.wrap_i64];omega
 clear Yw hhe;go_upto_region 3 with fail
 clear q1;obtain ⟨WX,Mv,xx,-,AX⟩:=aH W2 32 [i64 (hh:Int),.slice none 0 0,.slice none 0 0,.slice none 0 0,.slice none 0 0,.slice none 0 0,.slice none 0 0,.slice none 0 0];rw [show W2.alloc (.cells #[i64 (hh:Int),.slice none 0 0,.slice none 0 0,.slice none 0 0,.slice none 0 0,.slice none 0 0,.slice none 0 0,.slice none 0 0] 32)=WX from Mv.symm];obtain ⟨X,Ki⟩: ∃X,X=W2.heap.size:=⟨_,rfl⟩;rw [←Ki]at AX⊢
 have HU:Hid (CW V T R X a c l [i64 (hh:Int),.slice none 0 0,.slice none 0 0,.slice none 0 0,.slice none 0 0,.slice none 0 0,.slice none 0 0,.slice none 0 0] (⟨hh,none,0,[],none,0,[],none,0,[],none,0,[],none,0,[],none,0,[],none,0,[]⟩:ai) WX):=by
  have h1:=HT.o.lt;have h2:=HR.o.lt
  refine ⟨HT.o.ext xx,AX,HR.o.ext xx,HX.o.trans xx,?_,?_,mU.o.1,mU.o.2,p9.symm,by omega,by omega⟩
  ·have h5:=HH.o
   exact ⟨by unfold bp;simp only;omega,aD.nil _,bS.nil' _ _,fun b hb=>(by cases hb),bS.nil' _ _,fun b hb=>(by cases hb),bS.nil' _ _,fun b hb=>(by cases hb),bS.nil' _ _,fun b hb=>(by cases hb),bS.nil' _ _,fun b hb=>(by cases hb),bS.nil' _ _,fun b hb=>(by cases hb)⟩
  ·exact ⟨iq.none _,iq.none _,fun b hb=>(by cases hb),iq.none _,fun b hb=>(by cases hb),iq.none _,fun b hb=>(by cases hb),iq.none _,iq.none _,fun b hb=>(by cases hb),iq.none _,fun b hb=>(by cases hb)⟩
 clear Mv Ki xx AX HT HR HX;have E5:=ae (fun U (hx:Ext V U) (hU:aY U T a c l) (m:Int) (hm:0<m) (qM:m<1000000)=>ki V U T a c l hh m mU.o.1 hx HL.o hU (by have:=HH.o;omega) hm qM);have c0:WX.cell? ⟨X,0,none⟩=some (i64 (hh:Int)):=(HU.o.bJ.cell 0).trans rfl;go_wp2_with fail
 refine (E5.o WX HU.o.ext HU.o.tape 5 (by decide) (by decide)).mono ?_;rintro e W3 ⟨rb,rc,rs,rfl,QJ,Su,Ge,Ey,hT,hx⟩;have Iq:=ae (HU.o.next hT hx);have DU:Hid (rs.length=hh∧ ∀z∈rs,0≤z∧z<5):=⟨QJ,Ge⟩;have c1:W3.cell? ⟨X,1,none⟩=some (.slice none 0 0):=(Iq.o.bJ.cell 1).trans rfl;have f1:=Iq.o.bJ.frozen 1
 have HU4:Hid (CW V T R X a c l [i64 (hh:Int),.slice rb hh rc,.slice none 0 0,.slice none 0 0,.slice none 0 0,.slice none 0 0,.slice none 0 0,.slice none 0 0] (⟨hh,rb,rc,rs,none,0,[],none,0,[],none,0,[],none,0,[],none,0,[],none,0,[]⟩:ai) (W3.setCell ⟨X,1,none⟩ (.slice rb hh rc))):=by
  have h:=Iq.o;refine h.set 1 _ {h.case' with aV:=Su} {h.bl with aV:=fun p hp=> ?_};replace hp:rb=some p:=hp;have h1:=Ey p hp;have h2:=HU.o.bJ.lt
  show X<p.block∧p.block<W3.heap.size;have h3:0<rs.length:=by rw [QJ];have:=HH.o;omega
  obtain ⟨b3,o3,h4,h5⟩:=Su.cell 0 h3;rw [hp]at h4;cases h4
  have h6:=bm h5;simp only at h1 h6⊢;omega
 clear c0 HU Iq hT hx Su Ge Ey QJ;go_upto_region 4 with fail
 clear c1 f1;have HU:=HU4;clear HU4;generalize (W3.setCell ⟨X,1,none⟩ (.slice rb hh rc))=W4 at*;go_wp2_with fail
 refine (fL.o W4 4 (HU.o.ext.but T) HU.o.tape (by decide) (by decide)).mono ?_;rintro e W5 ⟨nv,rfl,Yx,hT,hx⟩;replace HU:=ae (HU.o.next hT hx);clear hT hx;obtain ⟨nb,PO⟩: ∃nb:Nat,1+nv=(nb:Int):=⟨(1+nv).toNat,by omega⟩;have jE:Hid (1≤nb∧nb≤4):=by show _∧_;omega
 have q1:IntKind.i64.wrap (1+nv)=(nb:Int):=by rw [IntKind.wrap_i64];omega
 clear Yx PO
 go_upto_block 0 with fail
 clear q1;go_cut [] (fun wx=> ∃(bs:List cA) (ba:Option Addr) (bc:Nat),bs.length=nb∧(∀j (h:j<bs.length),jR bs[j] j hh)∧CW V T R X a c l [i64 (hh:Int),.slice rb hh rc,.slice ba nb bc,.slice none 0 0,.slice none 0 0,.slice none 0 0,.slice none 0 0,.slice none 0 0] (⟨hh,rb,rc,rs,ba,bc,bs,none,0,[],none,0,[],none,0,[],none,0,[],none,0,[]⟩:ai) wx)
 case first=>
  as_aux_lemma=>
   have HP:Hid (gT V T R X W5.heap.size a c l [i64 (hh:Int),.slice rb hh rc,.slice none ([]:List cA).length 0,.slice none 0 0,.slice none 0 0,.slice none 0 0,.slice none 0 0,.slice none 0 0] (⟨hh,rb,rc,rs,none,0,[],none,0,[],none,0,[],none,0,[],none,0,[],none,0,[]⟩:ai) 74 3 none 0 (fc []) (([]:List cA).map fun b=>(b.da,b.dc,b.bP)) [] W5):=
    ⟨HU.o,aN.nil _ _ _ _,fun s hs=>absurd hs (by simp),fun s hs=>absurd hs (by simp),HU.o.bl.mono fun b hb=>hb.2,Nat.le_refl _,HU.o.bJ.lt⟩
   clear HU;go_wp2_with fail
   go_loopw [5] (fun nv wr=> ∃(k:Nat) (bs:List cA) (ba:Option Addr) (bc:Nat),k≤nb∧bs.length=k∧(∀j (h:j<bs.length),jR bs[j] j hh)∧gT V T R X W5.heap.size a c l [i64 (hh:Int),.slice rb hh rc,.slice ba bs.length bc,.slice none 0 0,.slice none 0 0,.slice none 0 0,.slice none 0 0,.slice none 0 0] (⟨hh,rb,rc,rs,none,0,[],none,0,[],none,0,[],none,0,[],none,0,[],none,0,[]⟩:ai) 74 3 ba bc (fc bs) (bs.map fun b=>(b.da,b.dc,b.bP)) [] wr∧nv= .int .i64 ((nb-k:Nat):Int)) (fun nv _=>(intOf nv).toNat)
   case atStart=>exact ⟨0,[],none,0,Nat.zero_le _,rfl,fun j h=>absurd h (by simp),HP.o,rfl⟩
   case round=>
    obtain ⟨k,bs,ba,bc,hk,hbl,TC,hP,rfl⟩:=hrel;clear HP;have HP:=ae hP;have Ce:=ae TC;have jo:=ae hbl
    clear hP TC hbl;by_cases hlt:k<nb
    ·have b0:(0:Int)<((nb-k:Nat):Int):=by omega
     have CO:=ae (fun U=>tW U 98 k (by have:=jE.o;omega));go_upto_region 7 with fail
     go_cut [6] (fun v wx=> ∃(B:Nat) (da:Option Addr) (dc:Nat) (dm:List Int),v= .pointer (some ⟨B,0,none⟩)∧(dm.length=hh∧ ∀z∈dm,0≤z∧z<14)∧aJ wx B 74 [.string (aI 98 k),.slice da hh dc,i64 0]∧(W5.heap.size≤B∧B≠T∧(∀q,ba=some q→q.block≠B)∧(∀s∈(bs.map fun b=>(b.da,b.dc,b.bP))++ [(da,dc,dm)],∀p,s.1=some p→p.block≠B))∧gT V T R X W5.heap.size a c l [i64 (hh:Int),.slice rb hh rc,.slice ba bs.length bc,.slice none 0 0,.slice none 0 0,.slice none 0 0,.slice none 0 0,.slice none 0 0] (⟨hh,rb,rc,rs,none,0,[],none,0,[],none,0,[],none,0,[],none,0,[],none,0,[]⟩:ai) 74 3 ba bc (fc bs) ((bs.map fun b=>(b.da,b.dc,b.bP))++ [(da,dc,dm)]) [] wx)
     case first=>
      as_aux_lemma=>
       refine aB (fun w'=>w'.cell? ⟨X,2,none⟩=some (.slice ba bs.length bc)∧w'.cell? ⟨X,0,none⟩=some (i64 (hh:Int))) (fun w'=>True) (fun i=>false) (by kernel_rfl) (⟨(HP.o.cw.bJ.cell 2).trans rfl,(HP.o.cw.bJ.cell 0).trans rfl⟩) (trivial) (fun aq ah=> ?_);refine ay 0 aq ah ?_;refine ay 1 aq ah ?_;refine ay 2 aq ah ?_ (v:= .int .i64 (bs.length:Int));refine ay 4 aq ah ?_;refine ay 5 aq ah ?_;refine ay 6 aq ah ?_ (v:=i64 (hh:Int));replace HP:=ae (HP.o.grow (Ext.refl wr).drew);generalize wr.drew=Y1 at*;refine aQ (rs:= [3,9]) (by kernel_rfl) (by simp) ?_;refine aA.cons rfl (fun Kc hK=> ?_) (aA.cons rfl (fun Kc hK=> ?_) aA.nil)
       ·go_simp
        rw [jo.o];refine (CO.o Y1).mono ?_;rintro e w1 ⟨rfl,fK⟩;rw [fK];clear fK;refine hK.o _ _ (⟨(HP.o.cw.bJ.cell 2).trans rfl,(HP.o.cw.bJ.cell 0).trans rfl⟩) (trivial) (fun aq ah=> ?_);clear hK Kc;try simp only [iK,iL,iM,List.setIfInBounds_toArray,iN,iO,Act.put]
        refine aQ (rs:= [7,9]) (by kernel_rfl) (by simp) ?_;refine aA.cons rfl (fun Kc hK=> ?_) (aA.cons rfl (fun Kc hK=> ?_) aA.nil)
        ·go_simp
         refine (E5.o Y1 HP.o.cw.ext HP.o.cw.tape 14 (by decide) (by decide)).mono ?_;rintro e Y2 ⟨da,dc,dm,rfl,vG,lF,hdr,zL,hT,hx⟩
         have MU: ∀p,da=some p→p.block<Y2.heap.size:=fun p hp=>by
             obtain ⟨b3,o3,h4,h5⟩:=lF.cell 0 (by rw [vG];have:=HH.o;omega);rw [hp]at h4;cases h4
             exact bm h5
         have LY:Hid (dm.length=hh∧ ∀z∈dm,0≤z∧z<14):=⟨vG,hdr⟩;replace HP:=ae (HP.o.Be hT hx lF zL MU);clear vG lF hdr zL hT hx MU;refine hK.o _ _ (⟨(HP.o.cw.bJ.cell 2).trans rfl,(HP.o.cw.bJ.cell 0).trans rfl⟩) (trivial) (fun aq ah=> ?_);clear hK Kc;try simp only [iK,iL,iM,List.setIfInBounds_toArray,iN,iO,Act.put]
         refine ay 8 aq ah ?_ (v:= .agg #[.string (aI 98 k),.slice da hh dc,i64 0]);refine dX 9 rfl (fun Kc hK=> ?_);go_simp;obtain ⟨Y3,kC,xa,-,AA⟩:=aH Y2 74 [.string {data:= #[]},.slice none 0 0,i64 0];rw [show Y2.alloc (.cells #[.string {data:= #[]},.slice none 0 0,i64 0] 74)=Y3 from kC.symm];obtain ⟨B,hB⟩: ∃B,B=Y2.heap.size:=⟨_,rfl⟩;rw [←hB]at AA⊢
         have oM:Hid (W5.heap.size≤B∧B≠T∧(∀q,ba=some q→q.block≠B)∧(∀s∈((bs.map fun b=>(b.da,b.dc,b.bP))++ [(da,dc,dm)]),∀p,s.1=some p→p.block≠B)):=by
             rw [hB];exact ⟨HP.o.size,by have:=HP.o.cw.tape.lt;omega,HP.o.far.1,HP.o.far.2.1⟩
         have HB:=ae AA;replace HP:=ae (HP.o.grow xa);clear kC xa AA hB;refine hK.o _ _ (⟨(HP.o.cw.bJ.cell 2).trans rfl,(HP.o.cw.bJ.cell 0).trans rfl⟩) (trivial) (fun aq ah=> ?_);clear hK Kc;try simp only [iK,iL,iM,List.setIfInBounds_toArray,iN,iO,Act.put]
         refine dX 10 rfl (fun Kc hK=> ?_);have c0:=HB.o.cl 0 (.string {data:= #[]}) rfl;have c1:=HB.o.cl 1 (.slice none 0 0) rfl;have c2:=HB.o.cl 2 (i64 0) rfl;have f0:=HB.o.frozen 0;have f1:=HB.o.frozen 1;have f2:=HB.o.frozen 2;go_simp;replace HP:=ae (HP.o.but ((((ar.refl B Y3).gD (o:=0) (v:= .string (aI 98 k))).gD (o:=1) (v:= .slice da hh dc)).gD (o:=2) (v:=i64 0)) oM.o.1 oM.o.2.2.1 oM.o.2.2.2 (fun s hs=>absurd hs (by simp)));replace HB:Hid (aJ (((Y3.setCell ⟨B,0,none⟩ (.string (aI 98 k))).setCell ⟨B,1,none⟩ (.slice da hh dc)).setCell ⟨B,2,none⟩ (i64 0)) B 74 [.string (aI 98 k),.slice da hh dc,i64 0]):=((HB.o.set 0 _).set 1 _).set 2 _;clear c0 c1 c2 f0 f1 f2;generalize (((Y3.setCell ⟨B,0,none⟩ (.string (aI 98 k))).setCell ⟨B,1,none⟩ (.slice da hh dc)).setCell ⟨B,2,none⟩ (i64 0))=Y4 at*;refine hK.o _ _ (⟨(HP.o.cw.bJ.cell 2).trans rfl,(HP.o.cw.bJ.cell 0).trans rfl⟩) (trivial) (fun aq ah=> ?_);clear hK Kc;try simp only [iK,iL,iM,List.setIfInBounds_toArray,iN,iO,Act.put]
         refine ax (by kernel_rfl) ?_ _;clear aq ah;go_wp2_with fail
         go_meet
         exact ⟨B,da,dc,dm,rfl,LY.o,HB.o,oM.o,HP.o⟩
        ·go_simp
         obtain ⟨Y5,kC,xa,-,AA⟩:=aH Y1 74 [.string {data:= #[]},.slice none 0 0,i64 0];rw [show Y1.alloc (.cells #[.string {data:= #[]},.slice none 0 0,i64 0] 74)=Y5 from kC.symm];obtain ⟨B,hB⟩: ∃B,B=Y1.heap.size:=⟨_,rfl⟩;rw [←hB]at AA⊢
         have oM:Hid (W5.heap.size≤B∧B≠T∧(∀q,ba=some q→q.block≠B)∧(∀s∈(bs.map fun b=>(b.da,b.dc,b.bP)),∀p,s.1=some p→p.block≠B)):=by
             rw [hB];exact ⟨HP.o.size,by have:=HP.o.cw.tape.lt;omega,HP.o.far.1,HP.o.far.2.1⟩
         have HB:=ae AA;replace HP:=ae (HP.o.grow xa);clear kC xa AA hB;refine hK.o _ _ (⟨(HP.o.cw.bJ.cell 2).trans rfl,(HP.o.cw.bJ.cell 0).trans rfl⟩) (trivial) (fun aq ah=> ?_);clear hK Kc;try simp only [iK,iL,iM,List.setIfInBounds_toArray,iN,iO,Act.put]
         refine dX 7 rfl (fun Kc hK=> ?_);go_simp;refine (E5.o Y5 HP.o.cw.ext HP.o.cw.tape 14 (by decide) (by decide)).mono ?_;rintro e Y6 ⟨da,dc,dm,rfl,vG,lF,hdr,zL,hT,hx⟩
         have MU: ∀p,da=some p→p.block<Y6.heap.size:=fun p hp=>by
             obtain ⟨b3,o3,h4,h5⟩:=lF.cell 0 (by rw [vG];have:=HH.o;omega);rw [hp]at h4;cases h4
             exact bm h5
         have LY:Hid (dm.length=hh∧ ∀z∈dm,0≤z∧z<14):=⟨vG,hdr⟩;have hBl:=HB.o.lt
         replace oM:Hid (W5.heap.size≤B∧B≠T∧(∀q,ba=some q→q.block≠B)∧(∀s∈((bs.map fun b=>(b.da,b.dc,b.bP))++ [(da,dc,dm)]),∀p,s.1=some p→p.block≠B)):=by
             refine ⟨oM.o.1,oM.o.2.1,oM.o.2.2.1,fun s hs p hp=> ?_⟩;rcases List.mem_append.1 hs with q|q
             ·exact oM.o.2.2.2 s q p hp
             ·rw [List.mem_singleton]at q;subst q
              have:=zL p hp;omega
         replace HB:=ae (HB.o.but hx oM.o.2.1);clear hBl;replace HP:=ae (HP.o.Be hT hx lF zL MU);clear vG lF hdr zL hT hx MU;refine hK.o _ _ (⟨(HP.o.cw.bJ.cell 2).trans rfl,(HP.o.cw.bJ.cell 0).trans rfl⟩) (trivial) (fun aq ah=> ?_);clear hK Kc;try simp only [iK,iL,iM,List.setIfInBounds_toArray,iN,iO,Act.put]
         refine ay 8 aq ah ?_ (v:= .agg #[.string (aI 98 k),.slice da hh dc,i64 0]);refine dX 10 rfl (fun Kc hK=> ?_);have c0:=HB.o.cl 0 (.string {data:= #[]}) rfl;have c1:=HB.o.cl 1 (.slice none 0 0) rfl;have c2:=HB.o.cl 2 (i64 0) rfl;have f0:=HB.o.frozen 0;have f1:=HB.o.frozen 1;have f2:=HB.o.frozen 2;go_simp;replace HP:=ae (HP.o.but ((((ar.refl B Y6).gD (o:=0) (v:= .string (aI 98 k))).gD (o:=1) (v:= .slice da hh dc)).gD (o:=2) (v:=i64 0)) oM.o.1 oM.o.2.2.1 oM.o.2.2.2 (fun s hs=>absurd hs (by simp)));replace HB:Hid (aJ (((Y6.setCell ⟨B,0,none⟩ (.string (aI 98 k))).setCell ⟨B,1,none⟩ (.slice da hh dc)).setCell ⟨B,2,none⟩ (i64 0)) B 74 [.string (aI 98 k),.slice da hh dc,i64 0]):=((HB.o.set 0 _).set 1 _).set 2 _;clear c0 c1 c2 f0 f1 f2;generalize (((Y6.setCell ⟨B,0,none⟩ (.string (aI 98 k))).setCell ⟨B,1,none⟩ (.slice da hh dc)).setCell ⟨B,2,none⟩ (i64 0))=Y7 at*;refine hK.o _ _ (⟨(HP.o.cw.bJ.cell 2).trans rfl,(HP.o.cw.bJ.cell 0).trans rfl⟩) (trivial) (fun aq ah=> ?_);clear hK Kc;try simp only [iK,iL,iM,List.setIfInBounds_toArray,iN,iO,Act.put]
         refine ax (by kernel_rfl) ?_ _;clear aq ah;go_wp2_with fail
         go_meet
         exact ⟨B,da,dc,dm,rfl,LY.o,HB.o,oM.o,HP.o⟩
       ·go_simp
        obtain ⟨Y8,kC,xa,-,AA⟩:=aH Y1 74 [.string {data:= #[]},.slice none 0 0,i64 0];rw [show Y1.alloc (.cells #[.string {data:= #[]},.slice none 0 0,i64 0] 74)=Y8 from kC.symm];obtain ⟨B,hB⟩: ∃B,B=Y1.heap.size:=⟨_,rfl⟩;rw [←hB]at AA⊢
        have oM:Hid (W5.heap.size≤B∧B≠T∧(∀q,ba=some q→q.block≠B)∧(∀s∈(bs.map fun b=>(b.da,b.dc,b.bP)),∀p,s.1=some p→p.block≠B)):=by
             rw [hB];exact ⟨HP.o.size,by have:=HP.o.cw.tape.lt;omega,HP.o.far.1,HP.o.far.2.1⟩
        have HB:=ae AA;replace HP:=ae (HP.o.grow xa);clear kC xa AA hB;refine hK.o _ _ (⟨(HP.o.cw.bJ.cell 2).trans rfl,(HP.o.cw.bJ.cell 0).trans rfl⟩) (trivial) (fun aq ah=> ?_);clear hK Kc;try simp only [iK,iL,iM,List.setIfInBounds_toArray,iN,iO,Act.put]
        refine dX 3 rfl (fun Kc hK=> ?_);go_simp;rw [jo.o];refine (CO.o Y8).mono ?_;rintro e w1 ⟨rfl,fK⟩;rw [fK];clear fK;refine hK.o _ _ (⟨(HP.o.cw.bJ.cell 2).trans rfl,(HP.o.cw.bJ.cell 0).trans rfl⟩) (trivial) (fun aq ah=> ?_);clear hK Kc;try simp only [iK,iL,iM,List.setIfInBounds_toArray,iN,iO,Act.put]
        refine dX 7 rfl (fun Kc hK=> ?_);go_simp;refine (E5.o Y8 HP.o.cw.ext HP.o.cw.tape 14 (by decide) (by decide)).mono ?_;rintro e Y9 ⟨da,dc,dm,rfl,vG,lF,hdr,zL,hT,hx⟩
        have MU: ∀p,da=some p→p.block<Y9.heap.size:=fun p hp=>by
             obtain ⟨b3,o3,h4,h5⟩:=lF.cell 0 (by rw [vG];have:=HH.o;omega);rw [hp]at h4;cases h4
             exact bm h5
        have LY:Hid (dm.length=hh∧ ∀z∈dm,0≤z∧z<14):=⟨vG,hdr⟩;have hBl:=HB.o.lt
        replace oM:Hid (W5.heap.size≤B∧B≠T∧(∀q,ba=some q→q.block≠B)∧(∀s∈((bs.map fun b=>(b.da,b.dc,b.bP))++ [(da,dc,dm)]),∀p,s.1=some p→p.block≠B)):=by
             refine ⟨oM.o.1,oM.o.2.1,oM.o.2.2.1,fun s hs p hp=> ?_⟩;rcases List.mem_append.1 hs with q|q
             ·exact oM.o.2.2.2 s q p hp
             ·rw [List.mem_singleton]at q;subst q
              have:=zL p hp;omega
        replace HB:=ae (HB.o.but hx oM.o.2.1);clear hBl;replace HP:=ae (HP.o.Be hT hx lF zL MU);clear vG lF hdr zL hT hx MU;refine hK.o _ _ (⟨(HP.o.cw.bJ.cell 2).trans rfl,(HP.o.cw.bJ.cell 0).trans rfl⟩) (trivial) (fun aq ah=> ?_);clear hK Kc;try simp only [iK,iL,iM,List.setIfInBounds_toArray,iN,iO,Act.put]
        refine ay 8 aq ah ?_ (v:= .agg #[.string (aI 98 k),.slice da hh dc,i64 0]);refine dX 10 rfl (fun Kc hK=> ?_);have c0:=HB.o.cl 0 (.string {data:= #[]}) rfl;have c1:=HB.o.cl 1 (.slice none 0 0) rfl;have c2:=HB.o.cl 2 (i64 0) rfl;have f0:=HB.o.frozen 0;have f1:=HB.o.frozen 1;have f2:=HB.o.frozen 2;go_simp;replace HP:=ae (HP.o.but ((((ar.refl B Y9).gD (o:=0) (v:= .string (aI 98 k))).gD (o:=1) (v:= .slice da hh dc)).gD (o:=2) (v:=i64 0)) oM.o.1 oM.o.2.2.1 oM.o.2.2.2 (fun s hs=>absurd hs (by simp)));replace HB:Hid (aJ (((Y9.setCell ⟨B,0,none⟩ (.string (aI 98 k))).setCell ⟨B,1,none⟩ (.slice da hh dc)).setCell ⟨B,2,none⟩ (i64 0)) B 74 [.string (aI 98 k),.slice da hh dc,i64 0]):=((HB.o.set 0 _).set 1 _).set 2 _;clear c0 c1 c2 f0 f1 f2;generalize (((Y9.setCell ⟨B,0,none⟩ (.string (aI 98 k))).setCell ⟨B,1,none⟩ (.slice da hh dc)).setCell ⟨B,2,none⟩ (i64 0))=Y10 at*;refine hK.o _ _ (⟨(HP.o.cw.bJ.cell 2).trans rfl,(HP.o.cw.bJ.cell 0).trans rfl⟩) (trivial) (fun aq ah=> ?_);clear hK Kc;try simp only [iK,iL,iM,List.setIfInBounds_toArray,iN,iO,Act.put]
        refine ax (by kernel_rfl) ?_ _;clear aq ah;go_wp2_with fail
        go_meet
        exact ⟨B,da,dc,dm,rfl,LY.o,HB.o,oM.o,HP.o⟩
     case rest=>
      obtain ⟨B,da,dc,dm,rfl,hdm,hB,hBO,hP⟩:=hcut;generalize wc=WB at*;clear HP;have HP:=ae hP;have HB:=ae hB;have oM:=ae hBO;have LY:=ae hdm
      clear hP hB hBO hdm;go_wp2_with fail
      refine (fL.o WB 2 (HP.o.cw.ext.but T) HP.o.cw.tape (by decide) (by decide)).mono ?_;rintro e W6 ⟨q,rfl,K8,hT,hx⟩;replace HP:=ae (HP.o.next hT hx);replace HB:=ae (HB.o.but hx oM.o.2.1);clear hT hx K8;go_upto_if 47 with fail
      go_cut [] (fun wx=> ∃sh:Int,(sh=0∨(100≤sh∧sh<300))∧aJ wx B 74 [.string (aI 98 k),.slice da hh dc,i64 sh]∧gT V T R X W5.heap.size a c l [i64 (hh:Int),.slice rb hh rc,.slice ba bs.length bc,.slice none 0 0,.slice none 0 0,.slice none 0 0,.slice none 0 0,.slice none 0 0] (⟨hh,rb,rc,rs,none,0,[],none,0,[],none,0,[],none,0,[],none,0,[],none,0,[]⟩:ai) 74 3 ba bc (fc bs) ((bs.map fun b=>(b.da,b.dc,b.bP))++ [(da,dc,dm)]) [] wx)
      case first=>
       as_aux_lemma=>
        rcases Bool.eq_false_or_eq_true (q==1)with hq|hq
        ·go_wp2_with fail
         refine (fL.o W6 200 (HP.o.cw.ext.but T) HP.o.cw.tape (by decide) (by decide)).mono ?_;rintro e W7 ⟨y,rfl,Kk,hT,hx⟩;replace HP:=ae (HP.o.next hT hx);replace HB:=ae (HB.o.but hx oM.o.2.1);clear hT hx;have q1:IntKind.i64.wrap (100+y)=100+y:=by rw [IntKind.wrap_i64];omega
         have HY:=ae Kk;clear Kk;have c2:=HB.o.cl 2 (i64 0) rfl;have f2:=HB.o.frozen 2;replace HP:=ae (HP.o.but ((ar.refl B W7).gD (o:=2) (v:=i64 (100+y))) oM.o.1 oM.o.2.2.1 oM.o.2.2.2 (fun s hs=>absurd hs (by simp)));replace HB:Hid (aJ (W7.setCell ⟨B,2,none⟩ (i64 (100+y))) B 74 [.string (aI 98 k),.slice da hh dc,i64 (100+y)]):=HB.o.set 2 _;go_wp2_with fail
         go_meet
         exact ⟨100+y,Or.inr (by have:=HY.o;omega),HB.o,HP.o⟩
        ·go_wp2_with fail
         go_meet
         exact ⟨0,Or.inl rfl,HB.o,HP.o⟩
      case rest=>
       obtain ⟨sh,PB,hB,hP⟩:=hcut;generalize wc=WC at*;clear HP HB;have HP:=ae hP;have HB:=ae hB;have HSH:=ae PB
       clear hP hB PB;have c2:WC.cell? ⟨X,2,none⟩=some (.slice ba bs.length bc):=(HP.o.cw.bJ.cell 2).trans rfl;have b0:=HB.o.cl 0 (.string (aI 98 k)) rfl;have b1:=HB.o.cl 1 (.slice da hh dc) rfl;have b2:=HB.o.cl 2 (i64 sh) rfl;have ni:=ae ((Ext.refl WC).alloc (.cells #[.string (aI 98 k),.slice da hh dc,i64 sh] 74))
       have HOW:Hid ((WC.alloc (.cells #[.string (aI 98 k),.slice da hh dc,i64 sh] 74)).ownsRow W5.heap.size 74 3 (.slice ba bs.length bc) bs.length (fc bs).flatten):=by
        have h5:=(HP.o.own.ext ni.o).own;rw [gz]at h5;exact h5
       have hD:=HP.o.size;have Us:bs.length≤4:=by have:=jo.o;have:=jE.o;omega
       go_wp2_with (
        at_builtin
        refine aW _ rfl _ _ 25 rfl W5.heap.size 74 (.agg #[.string ByteArray.empty,.slice none 0 0,i64 0]) 3 48 underlying25 Tryz.info_bus rfl (by decide) (.slice ba bs.length bc) bs.length (fc bs).flatten rfl ?c1 (some ⟨WC.heap.size,0,none⟩) 1 1 [.string (aI 98 k),.slice da hh dc,i64 sh] rfl rfl ?c2 ?c3 ?c4 ?c5 (by decide) ?c6 ?_
        case c1=>exact HOW.o
        case c2=>exact fun _=>⟨_,rfl,cu WC 74 [.string (aI 98 k),.slice da hh dc,i64 sh]⟩
        case c3=>intro u hu;simp only [List.mem_cons,List.not_mem_nil,or_false]at hu;rcases hu with rfl|rfl|rfl<;>rfl
        case c4=>intro e;cases e
        case c5=>omega
        case c6=>simp;omega
        intro v1 w5 ho he hb hz hv;obtain ⟨g2,k2,rfl,c2',f2',m7⟩:=Jw (HP.o.grow ni.o) LY.o.1 ho.o he.o hb.o hz.o hv.o;obtain ⟨O7,O8⟩: ∃O7,O7=bs++ [(⟨aI 98 k,da,dc,dm,sh⟩:cA)]:=⟨_,rfl⟩;rw [←O8]at m7⊢;have JI:=ae m7;have q9:=ae O8;clear HP HB HOW ho he hb hz hv hD Us m7 c2 b0 b1 b2 ni O8)
       go_upto_region 6 with fail
       clear c2' f2';generalize (w5.setCell ⟨X,2,none⟩ (.slice g2 O7.length k2))=W8 at*;have q3:wrap64 (((nb-k:Nat):Int)-1)=((nb-(k+1):Nat):Int):=by unfold wrap64;have:=jE.o;omega
       have Yy:Hid (∀j (h:j<O7.length),jR O7[j] j hh):=by
        have h5:=jR.snoc (b:=(⟨aI 98 k,da,dc,dm,sh⟩:cA)) Ce.o ⟨by rw [jo.o],LY.o.1,LY.o.2,HSH.o⟩;rw [←q9.o]at h5;exact h5
       have hl2:Hid (O7.length=k+1):=by show _=_;rw [q9.o,List.length_append,jo.o];rfl
       go_wp2_with fail
       exact ⟨⟨k+1,O7,g2,k2,by omega,hl2.o,Yy.o,JI.o,congrArg (Value.int IntKind.i64) q3⟩,Nat.lt_of_le_of_lt (Nat.le_of_eq (congrArg Int.toNat q3)) (by show(((nb-(k+1):Nat):Int)).toNat<(((nb-k:Nat):Int)).toNat;omega)⟩
    ·obtain rfl:k=nb:=by omega
     clear hlt hk;have HC:Hid (CW V T R X a c l [i64 (hh:Int),.slice rb hh rc,.slice ba bs.length bc,.slice none 0 0,.slice none 0 0,.slice none 0 0,.slice none 0 0,.slice none 0 0] (⟨hh,rb,rc,rs,ba,bc,bs,none,0,[],none,0,[],none,0,[],none,0,[],none,0,[]⟩:ai) wr):=Jx HP.o Ce.o (by have:=jo.o;have:=jE.o;omega);clear HP;rw [jo.o]at HC;rw [Nat.sub_self k,show((0:Nat):Int)=0 from rfl];go_wp2_with fail
     go_meet
     exact ⟨bs,ba,bc,jo.o,Ce.o,HC.o⟩
 case rest=>
  obtain ⟨bs,ba,bc,hbl,TC,hC⟩:=hcut;generalize wc=WL at*;clear HU;have HC:=ae hC;have Ce:=ae TC;have jo:=ae hbl
  clear hC TC hbl;go_step
  exact JK V T R X a c l hh nb rc bc rb ba rs bs HL mU HH DU jE Ce jo WL HC
end Go.Proofs.YtkpngkdgphojlaaGreat
