/- Texts of the proof. -/
import Derived.Test.YtkpngkdgphojlaaGreatCf38
set_option linter.all false
set_option maxHeartbeats 40000000
set_option maxRecDepth 100000
namespace Go.Proofs.YtkpngkdgphojlaaGreat
open Go.Proofs.Tryz
open Go.RowKit
theorem L5 (V:World) (a:Option Addr) (c:Nat) (l:List Int) (hl:aI V a c l):
 Calls prog 10 #[.slice a l.length c] V fun e w'=> ∃(hh nb:Nat) (x:ai),e= .returned (.agg x.cells.toArray)∧a_ w' x∧fT hh nb x∧dW x=0∧(bZ (fun b=>V.heap.size≤b) x∧eh w' x∧bZ (fun b=>b<w'.heap.size) x)∧Ext V w':=by
 have HL:=ae hl;clear hl;go_enter func10,ntmps10
 go_upto_region 1 with fail
 obtain ⟨W0,hW,x0,Z0,A0⟩:=aX V 32 lS.cells;rw [show V.alloc (.cells #[i64 0,.slice none 0 0,.slice none 0 0,.slice none 0 0,.slice none 0 0,.slice none 0 0,.slice none 0 0,.slice none 0 0] 32)=W0 from hW.symm];obtain ⟨R,hR⟩: ∃R,R=V.heap.size:=⟨_,rfl⟩;rw [←hR]at A0⊢;have YL:W0.heap.size=V.heap.size+1:=by rw [hW];simp
 have HR:=ae A0;have HX:=ae x0
 clear hW Z0 A0 x0;go_wp2_with fail
 refine (Oe W0 a c l).mono ?_;rintro e W1 ⟨rfl,hT,hx⟩;obtain ⟨T,hTe⟩: ∃T,T=W0.heap.size:=⟨_,rfl⟩;rw [←hTe]at hT⊢;have qN:R≠T:=by omega
 have pD:Hid (V.heap.size≤T∧V.heap.size≤R):=by show _∧_;omega
 have HT:=ae hT;replace HX:=ae (HX.o.trans hx);replace HR:=ae (HR.o.ext hx)
 have gD:=ae (fI.of V V T a c l pD.o.1 (Ext.refl V) HL.o);clear hTe hT hx YL hR;go_wp2_with fail
 refine (gD.o W1 3 (HX.o.but T) HT.o (by decide) (by decide)).mono ?_;rintro e W2 ⟨hv,rfl,YM,hT,hx⟩;replace HR:=ae (HR.o.but hx qN);replace HX:=ae (hx.ext HX.o pD.o.1);replace HT:=ae hT
 clear hT hx;obtain ⟨hh,hhe⟩: ∃hh:Nat,1+hv=(hh:Int):=⟨(1+hv).toNat,by omega⟩;have HH:Hid (1≤hh∧hh≤3):=by show _∧_;omega
 have q1:IntKind.i64.wrap (1+hv)=(hh:Int):=by rw [IntKind.wrap_i64];omega
 clear YM hhe;go_upto_region 3 with fail
 clear q1;obtain ⟨WX,M7,xx,-,AX⟩:=aX W2 32 [i64 (hh:Int),.slice none 0 0,.slice none 0 0,.slice none 0 0,.slice none 0 0,.slice none 0 0,.slice none 0 0,.slice none 0 0];rw [show W2.alloc (.cells #[i64 (hh:Int),.slice none 0 0,.slice none 0 0,.slice none 0 0,.slice none 0 0,.slice none 0 0,.slice none 0 0,.slice none 0 0] 32)=WX from M7.symm];obtain ⟨X,KJ⟩: ∃X,X=W2.heap.size:=⟨_,rfl⟩;rw [←KJ]at AX⊢
 have HU:Hid (CW V T R X a c l [i64 (hh:Int),.slice none 0 0,.slice none 0 0,.slice none 0 0,.slice none 0 0,.slice none 0 0,.slice none 0 0,.slice none 0 0] (⟨hh,none,0,[],none,0,[],none,0,[],none,0,[],none,0,[],none,0,[],none,0,[]⟩:ai) WX):=by
  have h1:=HT.o.lt;have h2:=HR.o.lt
  refine ⟨HT.o.ext xx,AX,HR.o.ext xx,HX.o.trans xx,?_,?_,⟨pD.o.1,pD.o.2,qN.symm,by omega,by omega⟩,⟨iU.none _ _,iU.none _ _,iU.none _ _,iU.none _ _,iU.none _ _,iU.none _ _,⟨fun p hp=>(by cases hp),fun b hb=>(by cases hb),fun b hb=>(by cases hb),fun b hb=>(by cases hb),fun b hb=>(by cases hb),fun b hb=>(by cases hb)⟩⟩⟩
  ·have h5:=HH.o
   exact ⟨by unfold bB;simp only;omega,aI.nil _,bH.nil' _ _,fun b hb=>(by cases hb),bH.nil' _ _,fun b hb=>(by cases hb),bH.nil' _ _,fun b hb=>(by cases hb),bH.nil' _ _,fun b hb=>(by cases hb),bH.nil' _ _,fun b hb=>(by cases hb),bH.nil' _ _,fun b hb=>(by cases hb)⟩
  ·exact ⟨bT.none _,bT.none _,fun b hb=>(by cases hb),bT.none _,fun b hb=>(by cases hb),bT.none _,fun b hb=>(by cases hb),bT.none _,bT.none _,fun b hb=>(by cases hb),bT.none _,fun b hb=>(by cases hb)⟩
 clear M7 KJ xx AX HT HR HX;have Fw:=ae (fun U (hx:Ext V U) (hU:bJ U T a c l) (m:Int) (hm:0<m) (nc:m<1000000)=>kY V U T a c l hh m pD.o.1 hx HL.o hU (by have:=HH.o;omega) hm nc);have c0:WX.cell? ⟨X,0,none⟩=some (i64 (hh:Int)):=(HU.o.b_.cell 0).trans rfl;go_wp2_with fail
 refine (Fw.o WX HU.o.ext HU.o.tape 5 (by decide) (by decide)).mono ?_;rintro e W3 ⟨rb,rc,rs,rfl,OC,Tu,KU,Gq,hT,hx⟩;have Ou:=ae (HU.o.next hT hx);have DZ:Hid (rs.length=hh∧ ∀z∈rs,0≤z∧z<5):=⟨OC,KU⟩;have c1:W3.cell? ⟨X,1,none⟩=some (.slice none 0 0):=(Ou.o.b_.cell 1).trans rfl;have f1:=Ou.o.b_.frozen 1
 have S_:Hid (CW V T R X a c l [i64 (hh:Int),.slice rb hh rc,.slice none 0 0,.slice none 0 0,.slice none 0 0,.slice none 0 0,.slice none 0 0,.slice none 0 0] (⟨hh,rb,rc,rs,none,0,[],none,0,[],none,0,[],none,0,[],none,0,[],none,0,[]⟩:ai) (W3.setCell ⟨X,1,none⟩ (.slice rb hh rc))):=by
  have h:=Ou.o;refine h.set 1 _ {h.case' with aA:=Tu} {h.bl with aA:=fun p hp=> ?_} {h.sep with off:={h.sep.off with aA:=fun p hp q hq=>(by rcases hq with e|e|e|e|e|e<;>cases e)}};replace hp:rb=some p:=hp;have h1:=Gq p hp;have h2:=HU.o.b_.lt
  show X<p.block∧p.block<W3.heap.size;have h3:0<rs.length:=by rw [OC];have:=HH.o;omega
  obtain ⟨b3,o3,h4,h5⟩:=Tu.cell 0 h3;rw [hp]at h4;cases h4
  have h6:=cG h5;simp only at h1 h6⊢;omega
 clear c0 HU Ou hT hx Tu KU Gq OC;go_upto_region 4 with fail
 clear c1 f1;have HU:=S_;clear S_;generalize (W3.setCell ⟨X,1,none⟩ (.slice rb hh rc))=W4 at*;go_wp2_with fail
 refine (gD.o W4 4 (HU.o.ext.but T) HU.o.tape (by decide) (by decide)).mono ?_;rintro e W5 ⟨nv,rfl,YN,hT,hx⟩;replace HU:=ae (HU.o.next hT hx);clear hT hx;obtain ⟨nb,Ql⟩: ∃nb:Nat,1+nv=(nb:Int):=⟨(1+nv).toNat,by omega⟩;have jD:Hid (1≤nb∧nb≤4):=by show _∧_;omega
 have q1:IntKind.i64.wrap (1+nv)=(nb:Int):=by rw [IntKind.wrap_i64];omega
 clear YN Ql
 go_upto_block 0 with fail
 clear q1;go_cut [] (fun wx=> ∃(bs:List cN) (ba:Option Addr) (bc:Nat),bs.length=nb∧(∀j (h:j<bs.length),kH bs[j] j hh)∧CW V T R X a c l [i64 (hh:Int),.slice rb hh rc,.slice ba nb bc,.slice none 0 0,.slice none 0 0,.slice none 0 0,.slice none 0 0,.slice none 0 0] (⟨hh,rb,rc,rs,ba,bc,bs,none,0,[],none,0,[],none,0,[],none,0,[],none,0,[]⟩:ai) wx)
 case first=>
  as_aux_lemma=>
   have HP:Hid (iJ V T R X W5.heap.size a c l [i64 (hh:Int),.slice rb hh rc,.slice none ([]:List cN).length 0,.slice none 0 0,.slice none 0 0,.slice none 0 0,.slice none 0 0,.slice none 0 0] (⟨hh,rb,rc,rs,none,0,[],none,0,[],none,0,[],none,0,[],none,0,[],none,0,[]⟩:ai) 74 3 none 0 (fN []) (([]:List cN).map fun b=>(b.da,b.dc,b.cf)) [] W5):=
    ⟨HU.o,aJ.nil _ _ _ _,fun s hs=>absurd hs (by simp),fun s hs=>absurd hs (by simp),HU.o.bl.mono fun b hb=>hb.2,Nat.le_refl _,HU.o.b_.lt⟩
   clear HU;go_wp2_with fail
   go_loopw [5] (fun nv wr=> ∃(k:Nat) (bs:List cN) (ba:Option Addr) (bc:Nat),k≤nb∧bs.length=k∧(∀j (h:j<bs.length),kH bs[j] j hh)∧iJ V T R X W5.heap.size a c l [i64 (hh:Int),.slice rb hh rc,.slice ba bs.length bc,.slice none 0 0,.slice none 0 0,.slice none 0 0,.slice none 0 0,.slice none 0 0] (⟨hh,rb,rc,rs,none,0,[],none,0,[],none,0,[],none,0,[],none,0,[],none,0,[]⟩:ai) 74 3 ba bc (fN bs) (bs.map fun b=>(b.da,b.dc,b.cf)) [] wr∧nv= .int .i64 ((nb-k:Nat):Int)) (fun nv _=>(intOf nv).toNat)
   case atStart=>exact ⟨0,[],none,0,Nat.zero_le _,rfl,fun j h=>absurd h (by simp),HP.o,rfl⟩
   case round=>
    obtain ⟨k,bs,ba,bc,hk,hbl,Tv,hP,rfl⟩:=hrel;clear HP;have HP:=ae hP;have BZ:=ae Tv;have iG:=ae hbl
    clear hP Tv hbl;by_cases hlt:k<nb
    ·have b0:(0:Int)<((nb-k:Nat):Int):=by omega
     have Dd:=ae (fun U=>uH U 98 k (by have:=jD.o;omega));go_upto_region 7 with fail
     go_cut [6] (fun v wx=> ∃(B:Nat) (da:Option Addr) (dc:Nat) (dm:List Int),v= .pointer (some ⟨B,0,none⟩)∧(dm.length=hh∧ ∀z∈dm,0≤z∧z<14)∧aQ wx B 74 [.string (aR 98 k),.slice da hh dc,i64 0]∧(W5.heap.size≤B∧B≠T∧(∀q,ba=some q→q.block≠B)∧(∀s∈(bs.map fun b=>(b.da,b.dc,b.cf))++ [(da,dc,dm)],∀p,s.1=some p→p.block≠B))∧iJ V T R X W5.heap.size a c l [i64 (hh:Int),.slice rb hh rc,.slice ba bs.length bc,.slice none 0 0,.slice none 0 0,.slice none 0 0,.slice none 0 0,.slice none 0 0] (⟨hh,rb,rc,rs,none,0,[],none,0,[],none,0,[],none,0,[],none,0,[],none,0,[]⟩:ai) 74 3 ba bc (fN bs) ((bs.map fun b=>(b.da,b.dc,b.cf))++ [(da,dc,dm)]) [] wx)
     case first=>
      as_aux_lemma=>
       refine aL (fun w'=>w'.cell? ⟨X,2,none⟩=some (.slice ba bs.length bc)∧w'.cell? ⟨X,0,none⟩=some (i64 (hh:Int))) (fun w'=>True) (fun i=>false) (by kernel_rfl) (⟨(HP.o.cw.b_.cell 2).trans rfl,(HP.o.cw.b_.cell 0).trans rfl⟩) (trivial) (fun ay ah=> ?_);refine aF 0 ay ah ?_;refine aF 1 ay ah ?_;refine aF 2 ay ah ?_ (v:= .int .i64 (bs.length:Int));refine aF 4 ay ah ?_;refine aF 5 ay ah ?_;refine aF 6 ay ah ?_ (v:=i64 (hh:Int));replace HP:=ae (HP.o.grow (Ext.refl wr).drew);generalize wr.drew=Y1 at*;refine bE (rs:= [3,9]) (by kernel_rfl) (by simp) ?_;refine aH.cons rfl (fun Kc hK=> ?_) (aH.cons rfl (fun Kc hK=> ?_) aH.nil)
       ·go_simp
        rw [iG.o];refine (Dd.o Y1).mono ?_;rintro e w1 ⟨rfl,gH⟩;rw [gH];clear gH;refine hK.o _ _ (⟨(HP.o.cw.b_.cell 2).trans rfl,(HP.o.cw.b_.cell 0).trans rfl⟩) (trivial) (fun ay ah=> ?_);clear hK Kc;try simp only [jw,jx,jy,List.setIfInBounds_toArray,jz,jA,Act.put]
        refine bE (rs:= [7,9]) (by kernel_rfl) (by simp) ?_;refine aH.cons rfl (fun Kc hK=> ?_) (aH.cons rfl (fun Kc hK=> ?_) aH.nil)
        ·go_simp
         refine (Fw.o Y1 HP.o.cw.ext HP.o.cw.tape 14 (by decide) (by decide)).mono ?_;rintro e Y2 ⟨da,dc,dm,rfl,vR,vS,hdr,zV,hT,hx⟩
         have L6: ∀p,da=some p→p.block<Y2.heap.size:=fun p hp=>by
             obtain ⟨b3,o3,h4,h5⟩:=vS.cell 0 (by rw [vR];have:=HH.o;omega);rw [hp]at h4;cases h4
             exact cG h5
         have Fz:Hid (dm.length=hh∧ ∀z∈dm,0≤z∧z<14):=⟨vR,hdr⟩;replace HP:=ae (HP.o.DL hT hx vS zV L6);clear vR vS hdr zV hT hx L6;refine hK.o _ _ (⟨(HP.o.cw.b_.cell 2).trans rfl,(HP.o.cw.b_.cell 0).trans rfl⟩) (trivial) (fun ay ah=> ?_);clear hK Kc;try simp only [jw,jx,jy,List.setIfInBounds_toArray,jz,jA,Act.put]
         refine aF 8 ay ah ?_ (v:= .agg #[.string (aR 98 k),.slice da hh dc,i64 0]);refine fp 9 rfl (fun Kc hK=> ?_);go_simp;obtain ⟨Y3,Bj,xa,-,AA⟩:=aX Y2 74 [.string {data:= #[]},.slice none 0 0,i64 0];rw [show Y2.alloc (.cells #[.string {data:= #[]},.slice none 0 0,i64 0] 74)=Y3 from Bj.symm];obtain ⟨B,hB⟩: ∃B,B=Y2.heap.size:=⟨_,rfl⟩;rw [←hB]at AA⊢
         have pO:Hid (W5.heap.size≤B∧B≠T∧(∀q,ba=some q→q.block≠B)∧(∀s∈((bs.map fun b=>(b.da,b.dc,b.cf))++ [(da,dc,dm)]),∀p,s.1=some p→p.block≠B)):=by
             rw [hB];exact ⟨HP.o.size,by have:=HP.o.cw.tape.lt;omega,HP.o.far.1,HP.o.far.2.1⟩
         have HB:=ae AA;replace HP:=ae (HP.o.grow xa);clear Bj xa AA hB;refine hK.o _ _ (⟨(HP.o.cw.b_.cell 2).trans rfl,(HP.o.cw.b_.cell 0).trans rfl⟩) (trivial) (fun ay ah=> ?_);clear hK Kc;try simp only [jw,jx,jy,List.setIfInBounds_toArray,jz,jA,Act.put]
         refine fp 10 rfl (fun Kc hK=> ?_);have c0:=HB.o.cl 0 (.string {data:= #[]}) rfl;have c1:=HB.o.cl 1 (.slice none 0 0) rfl;have c2:=HB.o.cl 2 (i64 0) rfl;have f0:=HB.o.frozen 0;have f1:=HB.o.frozen 1;have f2:=HB.o.frozen 2;go_simp;replace HP:=ae (HP.o.but ((((ar.refl B Y3).eL (o:=0) (v:= .string (aR 98 k))).eL (o:=1) (v:= .slice da hh dc)).eL (o:=2) (v:=i64 0)) pO.o.1 pO.o.2.2.1 pO.o.2.2.2 (fun s hs=>absurd hs (by simp)));replace HB:Hid (aQ (((Y3.setCell ⟨B,0,none⟩ (.string (aR 98 k))).setCell ⟨B,1,none⟩ (.slice da hh dc)).setCell ⟨B,2,none⟩ (i64 0)) B 74 [.string (aR 98 k),.slice da hh dc,i64 0]):=((HB.o.set 0 _).set 1 _).set 2 _;clear c0 c1 c2 f0 f1 f2;generalize (((Y3.setCell ⟨B,0,none⟩ (.string (aR 98 k))).setCell ⟨B,1,none⟩ (.slice da hh dc)).setCell ⟨B,2,none⟩ (i64 0))=Y4 at*;refine hK.o _ _ (⟨(HP.o.cw.b_.cell 2).trans rfl,(HP.o.cw.b_.cell 0).trans rfl⟩) (trivial) (fun ay ah=> ?_);clear hK Kc;try simp only [jw,jx,jy,List.setIfInBounds_toArray,jz,jA,Act.put]
         refine aD (by kernel_rfl) ?_ _;clear ay ah;go_wp2_with fail
         go_meet
         exact ⟨B,da,dc,dm,rfl,Fz.o,HB.o,pO.o,HP.o⟩
        ·go_simp
         obtain ⟨Y5,Bj,xa,-,AA⟩:=aX Y1 74 [.string {data:= #[]},.slice none 0 0,i64 0];rw [show Y1.alloc (.cells #[.string {data:= #[]},.slice none 0 0,i64 0] 74)=Y5 from Bj.symm];obtain ⟨B,hB⟩: ∃B,B=Y1.heap.size:=⟨_,rfl⟩;rw [←hB]at AA⊢
         have pO:Hid (W5.heap.size≤B∧B≠T∧(∀q,ba=some q→q.block≠B)∧(∀s∈(bs.map fun b=>(b.da,b.dc,b.cf)),∀p,s.1=some p→p.block≠B)):=by
             rw [hB];exact ⟨HP.o.size,by have:=HP.o.cw.tape.lt;omega,HP.o.far.1,HP.o.far.2.1⟩
         have HB:=ae AA;replace HP:=ae (HP.o.grow xa);clear Bj xa AA hB;refine hK.o _ _ (⟨(HP.o.cw.b_.cell 2).trans rfl,(HP.o.cw.b_.cell 0).trans rfl⟩) (trivial) (fun ay ah=> ?_);clear hK Kc;try simp only [jw,jx,jy,List.setIfInBounds_toArray,jz,jA,Act.put]
         refine fp 7 rfl (fun Kc hK=> ?_);go_simp;refine (Fw.o Y5 HP.o.cw.ext HP.o.cw.tape 14 (by decide) (by decide)).mono ?_;rintro e Y6 ⟨da,dc,dm,rfl,vR,vS,hdr,zV,hT,hx⟩
         have L6: ∀p,da=some p→p.block<Y6.heap.size:=fun p hp=>by
             obtain ⟨b3,o3,h4,h5⟩:=vS.cell 0 (by rw [vR];have:=HH.o;omega);rw [hp]at h4;cases h4
             exact cG h5
         have Fz:Hid (dm.length=hh∧ ∀z∈dm,0≤z∧z<14):=⟨vR,hdr⟩;have hBl:=HB.o.lt
         replace pO:Hid (W5.heap.size≤B∧B≠T∧(∀q,ba=some q→q.block≠B)∧(∀s∈((bs.map fun b=>(b.da,b.dc,b.cf))++ [(da,dc,dm)]),∀p,s.1=some p→p.block≠B)):=by
             refine ⟨pO.o.1,pO.o.2.1,pO.o.2.2.1,fun s hs p hp=> ?_⟩;rcases List.mem_append.1 hs with q|q
             ·exact pO.o.2.2.2 s q p hp
             ·rw [List.mem_singleton]at q;subst q
              have:=zV p hp;omega
         replace HB:=ae (HB.o.but hx pO.o.2.1);clear hBl;replace HP:=ae (HP.o.DL hT hx vS zV L6);clear vR vS hdr zV hT hx L6;refine hK.o _ _ (⟨(HP.o.cw.b_.cell 2).trans rfl,(HP.o.cw.b_.cell 0).trans rfl⟩) (trivial) (fun ay ah=> ?_);clear hK Kc;try simp only [jw,jx,jy,List.setIfInBounds_toArray,jz,jA,Act.put]
         refine aF 8 ay ah ?_ (v:= .agg #[.string (aR 98 k),.slice da hh dc,i64 0]);refine fp 10 rfl (fun Kc hK=> ?_);have c0:=HB.o.cl 0 (.string {data:= #[]}) rfl;have c1:=HB.o.cl 1 (.slice none 0 0) rfl;have c2:=HB.o.cl 2 (i64 0) rfl;have f0:=HB.o.frozen 0;have f1:=HB.o.frozen 1;have f2:=HB.o.frozen 2;go_simp;replace HP:=ae (HP.o.but ((((ar.refl B Y6).eL (o:=0) (v:= .string (aR 98 k))).eL (o:=1) (v:= .slice da hh dc)).eL (o:=2) (v:=i64 0)) pO.o.1 pO.o.2.2.1 pO.o.2.2.2 (fun s hs=>absurd hs (by simp)));replace HB:Hid (aQ (((Y6.setCell ⟨B,0,none⟩ (.string (aR 98 k))).setCell ⟨B,1,none⟩ (.slice da hh dc)).setCell ⟨B,2,none⟩ (i64 0)) B 74 [.string (aR 98 k),.slice da hh dc,i64 0]):=((HB.o.set 0 _).set 1 _).set 2 _;clear c0 c1 c2 f0 f1 f2;generalize (((Y6.setCell ⟨B,0,none⟩ (.string (aR 98 k))).setCell ⟨B,1,none⟩ (.slice da hh dc)).setCell ⟨B,2,none⟩ (i64 0))=Y7 at*;refine hK.o _ _ (⟨(HP.o.cw.b_.cell 2).trans rfl,(HP.o.cw.b_.cell 0).trans rfl⟩) (trivial) (fun ay ah=> ?_);clear hK Kc;try simp only [jw,jx,jy,List.setIfInBounds_toArray,jz,jA,Act.put]
         refine aD (by kernel_rfl) ?_ _;clear ay ah;go_wp2_with fail
         go_meet
         exact ⟨B,da,dc,dm,rfl,Fz.o,HB.o,pO.o,HP.o⟩
       ·go_simp
        obtain ⟨Y8,Bj,xa,-,AA⟩:=aX Y1 74 [.string {data:= #[]},.slice none 0 0,i64 0];rw [show Y1.alloc (.cells #[.string {data:= #[]},.slice none 0 0,i64 0] 74)=Y8 from Bj.symm];obtain ⟨B,hB⟩: ∃B,B=Y1.heap.size:=⟨_,rfl⟩;rw [←hB]at AA⊢
        have pO:Hid (W5.heap.size≤B∧B≠T∧(∀q,ba=some q→q.block≠B)∧(∀s∈(bs.map fun b=>(b.da,b.dc,b.cf)),∀p,s.1=some p→p.block≠B)):=by
             rw [hB];exact ⟨HP.o.size,by have:=HP.o.cw.tape.lt;omega,HP.o.far.1,HP.o.far.2.1⟩
        have HB:=ae AA;replace HP:=ae (HP.o.grow xa);clear Bj xa AA hB;refine hK.o _ _ (⟨(HP.o.cw.b_.cell 2).trans rfl,(HP.o.cw.b_.cell 0).trans rfl⟩) (trivial) (fun ay ah=> ?_);clear hK Kc;try simp only [jw,jx,jy,List.setIfInBounds_toArray,jz,jA,Act.put]
        refine fp 3 rfl (fun Kc hK=> ?_);go_simp;rw [iG.o];refine (Dd.o Y8).mono ?_;rintro e w1 ⟨rfl,gH⟩;rw [gH];clear gH;refine hK.o _ _ (⟨(HP.o.cw.b_.cell 2).trans rfl,(HP.o.cw.b_.cell 0).trans rfl⟩) (trivial) (fun ay ah=> ?_);clear hK Kc;try simp only [jw,jx,jy,List.setIfInBounds_toArray,jz,jA,Act.put]
        refine fp 7 rfl (fun Kc hK=> ?_);go_simp;refine (Fw.o Y8 HP.o.cw.ext HP.o.cw.tape 14 (by decide) (by decide)).mono ?_;rintro e Y9 ⟨da,dc,dm,rfl,vR,vS,hdr,zV,hT,hx⟩
        have L6: ∀p,da=some p→p.block<Y9.heap.size:=fun p hp=>by
             obtain ⟨b3,o3,h4,h5⟩:=vS.cell 0 (by rw [vR];have:=HH.o;omega);rw [hp]at h4;cases h4
             exact cG h5
        have Fz:Hid (dm.length=hh∧ ∀z∈dm,0≤z∧z<14):=⟨vR,hdr⟩;have hBl:=HB.o.lt
        replace pO:Hid (W5.heap.size≤B∧B≠T∧(∀q,ba=some q→q.block≠B)∧(∀s∈((bs.map fun b=>(b.da,b.dc,b.cf))++ [(da,dc,dm)]),∀p,s.1=some p→p.block≠B)):=by
             refine ⟨pO.o.1,pO.o.2.1,pO.o.2.2.1,fun s hs p hp=> ?_⟩;rcases List.mem_append.1 hs with q|q
             ·exact pO.o.2.2.2 s q p hp
             ·rw [List.mem_singleton]at q;subst q
              have:=zV p hp;omega
        replace HB:=ae (HB.o.but hx pO.o.2.1);clear hBl;replace HP:=ae (HP.o.DL hT hx vS zV L6);clear vR vS hdr zV hT hx L6;refine hK.o _ _ (⟨(HP.o.cw.b_.cell 2).trans rfl,(HP.o.cw.b_.cell 0).trans rfl⟩) (trivial) (fun ay ah=> ?_);clear hK Kc;try simp only [jw,jx,jy,List.setIfInBounds_toArray,jz,jA,Act.put]
        refine aF 8 ay ah ?_ (v:= .agg #[.string (aR 98 k),.slice da hh dc,i64 0]);refine fp 10 rfl (fun Kc hK=> ?_);have c0:=HB.o.cl 0 (.string {data:= #[]}) rfl;have c1:=HB.o.cl 1 (.slice none 0 0) rfl;have c2:=HB.o.cl 2 (i64 0) rfl;have f0:=HB.o.frozen 0;have f1:=HB.o.frozen 1;have f2:=HB.o.frozen 2;go_simp;replace HP:=ae (HP.o.but ((((ar.refl B Y9).eL (o:=0) (v:= .string (aR 98 k))).eL (o:=1) (v:= .slice da hh dc)).eL (o:=2) (v:=i64 0)) pO.o.1 pO.o.2.2.1 pO.o.2.2.2 (fun s hs=>absurd hs (by simp)));replace HB:Hid (aQ (((Y9.setCell ⟨B,0,none⟩ (.string (aR 98 k))).setCell ⟨B,1,none⟩ (.slice da hh dc)).setCell ⟨B,2,none⟩ (i64 0)) B 74 [.string (aR 98 k),.slice da hh dc,i64 0]):=((HB.o.set 0 _).set 1 _).set 2 _;clear c0 c1 c2 f0 f1 f2;generalize (((Y9.setCell ⟨B,0,none⟩ (.string (aR 98 k))).setCell ⟨B,1,none⟩ (.slice da hh dc)).setCell ⟨B,2,none⟩ (i64 0))=Y10 at*;refine hK.o _ _ (⟨(HP.o.cw.b_.cell 2).trans rfl,(HP.o.cw.b_.cell 0).trans rfl⟩) (trivial) (fun ay ah=> ?_);clear hK Kc;try simp only [jw,jx,jy,List.setIfInBounds_toArray,jz,jA,Act.put]
        refine aD (by kernel_rfl) ?_ _;clear ay ah;go_wp2_with fail
        go_meet
        exact ⟨B,da,dc,dm,rfl,Fz.o,HB.o,pO.o,HP.o⟩
     case rest=>
      obtain ⟨B,da,dc,dm,rfl,Tw,hB,hBO,hP⟩:=hcut;generalize wc=WB at*;clear HP;have HP:=ae hP;have HB:=ae hB;have pO:=ae hBO;have Fz:=ae Tw
      clear hP hB hBO Tw;go_wp2_with fail
      refine (gD.o WB 2 (HP.o.cw.ext.but T) HP.o.cw.tape (by decide) (by decide)).mono ?_;rintro e W6 ⟨q,rfl,Lu,hT,hx⟩;replace HP:=ae (HP.o.next hT hx);replace HB:=ae (HB.o.but hx pO.o.2.1);clear hT hx Lu;go_upto_if 47 with fail
      go_cut [] (fun wx=> ∃sh:Int,(sh=0∨(100≤sh∧sh<300))∧aQ wx B 74 [.string (aR 98 k),.slice da hh dc,i64 sh]∧iJ V T R X W5.heap.size a c l [i64 (hh:Int),.slice rb hh rc,.slice ba bs.length bc,.slice none 0 0,.slice none 0 0,.slice none 0 0,.slice none 0 0,.slice none 0 0] (⟨hh,rb,rc,rs,none,0,[],none,0,[],none,0,[],none,0,[],none,0,[],none,0,[]⟩:ai) 74 3 ba bc (fN bs) ((bs.map fun b=>(b.da,b.dc,b.cf))++ [(da,dc,dm)]) [] wx)
      case first=>
       as_aux_lemma=>
        rcases Bool.eq_false_or_eq_true (q==1)with hq|hq
        ·go_wp2_with fail
         refine (gD.o W6 200 (HP.o.cw.ext.but T) HP.o.cw.tape (by decide) (by decide)).mono ?_;rintro e W7 ⟨y,rfl,KM,hT,hx⟩;replace HP:=ae (HP.o.next hT hx);replace HB:=ae (HB.o.but hx pO.o.2.1);clear hT hx;have q1:IntKind.i64.wrap (100+y)=100+y:=by rw [IntKind.wrap_i64];omega
         have HY:=ae KM;clear KM;have c2:=HB.o.cl 2 (i64 0) rfl;have f2:=HB.o.frozen 2;replace HP:=ae (HP.o.but ((ar.refl B W7).eL (o:=2) (v:=i64 (100+y))) pO.o.1 pO.o.2.2.1 pO.o.2.2.2 (fun s hs=>absurd hs (by simp)));replace HB:Hid (aQ (W7.setCell ⟨B,2,none⟩ (i64 (100+y))) B 74 [.string (aR 98 k),.slice da hh dc,i64 (100+y)]):=HB.o.set 2 _;go_wp2_with fail
         go_meet
         exact ⟨100+y,Or.inr (by have:=HY.o;omega),HB.o,HP.o⟩
        ·go_wp2_with fail
         go_meet
         exact ⟨0,Or.inl rfl,HB.o,HP.o⟩
      case rest=>
       obtain ⟨sh,MT,hB,hP⟩:=hcut;generalize wc=WC at*;clear HP HB;have HP:=ae hP;have HB:=ae hB;have KT:=ae MT
       clear hP hB MT;have c2:WC.cell? ⟨X,2,none⟩=some (.slice ba bs.length bc):=(HP.o.cw.b_.cell 2).trans rfl;have b0:=HB.o.cl 0 (.string (aR 98 k)) rfl;have b1:=HB.o.cl 1 (.slice da hh dc) rfl;have b2:=HB.o.cl 2 (i64 sh) rfl;have N4:=ae ((Ext.refl WC).alloc (.cells #[.string (aR 98 k),.slice da hh dc,i64 sh] 74))
       have HOW:Hid ((WC.alloc (.cells #[.string (aR 98 k),.slice da hh dc,i64 sh] 74)).ownsRow W5.heap.size 74 3 (.slice ba bs.length bc) bs.length (fN bs).flatten):=by
        have h5:=(HP.o.own.ext N4.o).own;rw [iz]at h5;exact h5
       have hD:=HP.o.size;have U8:bs.length≤4:=by have:=iG.o;have:=jD.o;omega
       go_wp2_with (
        at_builtin
        refine bn _ rfl _ _ 25 rfl W5.heap.size 74 (.agg #[.string ByteArray.empty,.slice none 0 0,i64 0]) 3 48 underlying25 Tryz.info_bus rfl (by decide) (.slice ba bs.length bc) bs.length (fN bs).flatten rfl ?c1 (some ⟨WC.heap.size,0,none⟩) 1 1 [.string (aR 98 k),.slice da hh dc,i64 sh] rfl rfl ?c2 ?c3 ?c4 ?c5 (by decide) ?c6 ?_
        case c1=>exact HOW.o
        case c2=>exact fun _=>⟨_,rfl,dD WC 74 [.string (aR 98 k),.slice da hh dc,i64 sh]⟩
        case c3=>intro u hu;simp only [List.mem_cons,List.not_mem_nil,or_false]at hu;rcases hu with rfl|rfl|rfl<;>rfl
        case c4=>intro e;cases e
        case c5=>omega
        case c6=>simp;omega
        intro v1 w5 ho he hb hz hv;obtain ⟨g2,k2,rfl,c2',O_,lH⟩:=Jz (HP.o.grow N4.o) Fz.o.1 ho.o he.o hb.o hz.o hv.o;obtain ⟨Pa,Pc⟩: ∃Pa,Pa=bs++ [(⟨aR 98 k,da,dc,dm,sh⟩:cN)]:=⟨_,rfl⟩;rw [←Pc]at lH⊢;have JT:=ae lH;have sI:=ae Pc;clear HP HB HOW ho he hb hz hv hD U8 lH c2 b0 b1 b2 N4 Pc)
       go_upto_region 6 with fail
       clear c2' O_;generalize (w5.setCell ⟨X,2,none⟩ (.slice g2 Pa.length k2))=W8 at*;have q3:wrap64 (((nb-k:Nat):Int)-1)=((nb-(k+1):Nat):Int):=by unfold wrap64;have:=jD.o;omega
       have YO:Hid (∀j (h:j<Pa.length),kH Pa[j] j hh):=by
        have h5:=kH.snoc (b:=(⟨aR 98 k,da,dc,dm,sh⟩:cN)) BZ.o ⟨by rw [iG.o],Fz.o.1,Fz.o.2,KT.o⟩;rw [←sI.o]at h5;exact h5
       have hl2:Hid (Pa.length=k+1):=by show _=_;rw [sI.o,List.length_append,iG.o];rfl
       go_wp2_with fail
       exact ⟨⟨k+1,Pa,g2,k2,by omega,hl2.o,YO.o,JT.o,congrArg (Value.int IntKind.i64) q3⟩,Nat.lt_of_le_of_lt (Nat.le_of_eq (congrArg Int.toNat q3)) (by show(((nb-(k+1):Nat):Int)).toNat<(((nb-k:Nat):Int)).toNat;omega)⟩
    ·obtain rfl:k=nb:=by omega
     clear hlt hk;have HC:Hid (CW V T R X a c l [i64 (hh:Int),.slice rb hh rc,.slice ba bs.length bc,.slice none 0 0,.slice none 0 0,.slice none 0 0,.slice none 0 0,.slice none 0 0] (⟨hh,rb,rc,rs,ba,bc,bs,none,0,[],none,0,[],none,0,[],none,0,[],none,0,[]⟩:ai) wr):=JA HP.o BZ.o (by have:=iG.o;have:=jD.o;omega);clear HP;rw [iG.o]at HC;rw [Nat.sub_self k,show((0:Nat):Int)=0 from rfl];go_wp2_with fail
     go_meet
     exact ⟨bs,ba,bc,iG.o,BZ.o,HC.o⟩
 case rest=>
  obtain ⟨bs,ba,bc,hbl,Tv,hC⟩:=hcut;generalize wc=WL at*;clear HU;have HC:=ae hC;have BZ:=ae Tv;have iG:=ae hbl
  clear hC Tv hbl;go_step
  exact JV V T R X a c l hh nb rc bc rb ba rs bs HL pD HH DZ jD BZ iG WL HC
end Go.Proofs.YtkpngkdgphojlaaGreat
