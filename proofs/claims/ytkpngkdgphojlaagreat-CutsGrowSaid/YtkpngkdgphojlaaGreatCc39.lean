/- Texts of the proof. -/
import Derived.Test.YtkpngkdgphojlaaGreatCc38
set_option linter.all false
namespace Go.Proofs.YtkpngkdgphojlaaGreat
open Go.RowKit
set_option maxHeartbeats 40000000 in
set_option maxRecDepth 100000 in
theorem C5 (V:World) (a:Option Addr) (c:Nat) (l:List Int) (hl:aA V a c l):
 Calls Tryz.prog 10 #[.slice a l.length c] V fun e w'=> ∃(hh nb:Nat) (x:aq),e= .returned (.agg x.cells.toArray)∧aT w' x∧fD hh nb x∧bT x=0∧dv (fun b=>V.heap.size≤b) x∧Ext V w':=by
 have HL:=ae hl;clear hl;go_enter Tryz.func10,Tryz.ntmps10
 go_upto_region 1 with fail
 obtain ⟨W0,hW,x0,Z0,A0⟩:=aB V 32 jc.cells;rw [show V.alloc (.cells #[i64 0,.slice none 0 0,.slice none 0 0,.slice none 0 0,.slice none 0 0,.slice none 0 0,.slice none 0 0,.slice none 0 0] 32)=W0 from hW.symm];obtain ⟨R,hR⟩: ∃R,R=V.heap.size:=⟨_,rfl⟩;rw [←hR]at A0⊢;have Wq:W0.heap.size=V.heap.size+1:=by rw [hW];simp
 have HR:=ae A0;have HX:=ae x0
 clear hW Z0 A0 x0;go_wp2_with fail
 refine (GW W0 a c l).mono ?_;rintro e W1 ⟨rfl,hT,hx⟩;obtain ⟨T,R1⟩: ∃T,T=W0.heap.size:=⟨_,rfl⟩;rw [←R1]at hT⊢;have pA:R≠T:=by omega
 have m_:Hid (V.heap.size≤T∧V.heap.size≤R):=by show _∧_;omega
 have HT:=ae hT;replace HX:=ae (HX.out.trans hx);replace HR:=ae (HR.out.ext hx)
 have eQ:=ae (eu.of V V T a c l m_.out.1 (Ext.refl V) HL.out);clear R1 hT hx Wq hR;go_wp2_with fail
 refine (eQ.out W1 3 (HX.out.but T) HT.out (by decide) (by decide)).mono ?_;rintro e W2 ⟨hv,rfl,Ws,hT,hx⟩;replace HR:=ae (HR.out.but hx pA);replace HX:=ae (hx.ext HX.out m_.out.1);replace HT:=ae hT
 clear hT hx;obtain ⟨hh,Wd⟩: ∃hh:Nat,1+hv=(hh:Int):=⟨(1+hv).toNat,by omega⟩;have HH:Hid (1≤hh∧hh≤3):=by show _∧_;omega
 have q1:IntKind.i64.wrap (1+hv)=(hh:Int):=by rw [IntKind.wrap_i64];omega
 clear Ws Wd;go_upto_region 3 with fail
 clear q1;obtain ⟨WX,K9,xx,-,AX⟩:=aB W2 32 [i64 (hh:Int),.slice none 0 0,.slice none 0 0,.slice none 0 0,.slice none 0 0,.slice none 0 0,.slice none 0 0,.slice none 0 0];rw [show W2.alloc (.cells #[i64 (hh:Int),.slice none 0 0,.slice none 0 0,.slice none 0 0,.slice none 0 0,.slice none 0 0,.slice none 0 0,.slice none 0 0] 32)=WX from K9.symm];obtain ⟨X,IP⟩: ∃X,X=W2.heap.size:=⟨_,rfl⟩;rw [←IP]at AX⊢
 have HU:Hid (CW V T R X a c l [i64 (hh:Int),.slice none 0 0,.slice none 0 0,.slice none 0 0,.slice none 0 0,.slice none 0 0,.slice none 0 0,.slice none 0 0] (⟨hh,none,0,[],none,0,[],none,0,[],none,0,[],none,0,[],none,0,[],none,0,[]⟩:aq) WX):=by
  have h1:=HT.out.lt;have h2:=HR.out.lt
  refine ⟨HT.out.ext xx,AX,HR.out.ext xx,HX.out.trans xx,?_,?_,m_.out.1,m_.out.2,pA.symm,by omega,by omega⟩
  ·have h5:=HH.out
   exact ⟨by unfold br;simp only;omega,aA.nil _,bP.nil' _ _,fun b hb=>(by cases hb),bP.nil' _ _,fun b hb=>(by cases hb),bP.nil' _ _,fun b hb=>(by cases hb),bP.nil' _ _,fun b hb=>(by cases hb),bP.nil' _ _,fun b hb=>(by cases hb),bP.nil' _ _,fun b hb=>(by cases hb)⟩
  ·exact ⟨fg.none _,fg.none _,fun b hb=>(by cases hb),fg.none _,fun b hb=>(by cases hb),fg.none _,fun b hb=>(by cases hb),fg.none _,fg.none _,fun b hb=>(by cases hb),fg.none _,fun b hb=>(by cases hb)⟩
 clear K9 IP xx AX HT HR HX;have C3:=ae (fun U (hx:Ext V U) (hU:bn U T a c l) (m:Int) (hm:0<m) (rk:m<1000000)=>jO V U T a c l hh m m_.out.1 hx HL.out hU (by have:=HH.out;omega) hm rk);have c0:WX.cell? ⟨X,0,none⟩=some (i64 (hh:Int)):=(HU.out.bK.cell 0).trans rfl;go_wp2_with fail
 refine (C3.out WX HU.out.ext HU.out.tape 5 (by decide) (by decide)).mono ?_;rintro e W3 ⟨rb,rc,rs,rfl,EN,Wu,Jy,Bx,hT,hx⟩;have D4:=ae (HU.out.next hT hx);have Ca:Hid (rs.length=hh∧ ∀z∈rs,0≤z∧z<5):=⟨EN,Jy⟩;have c1:W3.cell? ⟨X,1,none⟩=some (.slice none 0 0):=(D4.out.bK.cell 1).trans rfl;have f1:=D4.out.bK.frozen 1
 have ZW:Hid (CW V T R X a c l [i64 (hh:Int),.slice rb hh rc,.slice none 0 0,.slice none 0 0,.slice none 0 0,.slice none 0 0,.slice none 0 0,.slice none 0 0] (⟨hh,rb,rc,rs,none,0,[],none,0,[],none,0,[],none,0,[],none,0,[],none,0,[]⟩:aq) (W3.setCell ⟨X,1,none⟩ (.slice rb hh rc))):=by
  have h:=D4.out;refine h.set 1 _ {h.case' with az:=Wu} {h.bl with az:=fun p hp=> ?_};replace hp:rb=some p:=hp;have h1:=Bx p hp;have h2:=HU.out.bK.lt
  show X<p.block∧p.block<W3.heap.size;have h3:0<rs.length:=by rw [EN];have:=HH.out;omega
  obtain ⟨b3,o3,h4,h5⟩:=Wu.cell 0 h3;rw [hp]at h4;cases h4
  have h6:=cU h5;simp only at h1 h6⊢;omega
 clear c0 HU D4 hT hx Wu Jy Bx EN;go_upto_region 4 with fail
 clear c1 f1;have HU:=ZW;clear ZW;generalize (W3.setCell ⟨X,1,none⟩ (.slice rb hh rc))=W4 at*;go_wp2_with fail
 refine (eQ.out W4 4 (HU.out.ext.but T) HU.out.tape (by decide) (by decide)).mono ?_;rintro e W5 ⟨nv,rfl,Wv,hT,hx⟩;replace HU:=ae (HU.out.next hT hx);clear hT hx;obtain ⟨nb,Oz⟩: ∃nb:Nat,1+nv=(nb:Int):=⟨(1+nv).toNat,by omega⟩;have iB:Hid (1≤nb∧nb≤4):=by show _∧_;omega
 have q1:IntKind.i64.wrap (1+nv)=(nb:Int):=by rw [IntKind.wrap_i64];omega
 clear Wv Oz
 go_upto_block 0 with fail
 clear q1;go_cut [] (fun wx=> ∃(bs:List cN) (ba:Option Addr) (bc:Nat),bs.length=nb∧(∀j (h:j<bs.length),js bs[j] j hh)∧CW V T R X a c l [i64 (hh:Int),.slice rb hh rc,.slice ba nb bc,.slice none 0 0,.slice none 0 0,.slice none 0 0,.slice none 0 0,.slice none 0 0] (⟨hh,rb,rc,rs,ba,bc,bs,none,0,[],none,0,[],none,0,[],none,0,[],none,0,[]⟩:aq) wx)
 case first=>
  as_aux_lemma=>
   have HP:Hid (gC V T R X W5.heap.size a c l [i64 (hh:Int),.slice rb hh rc,.slice none ([]:List cN).length 0,.slice none 0 0,.slice none 0 0,.slice none 0 0,.slice none 0 0,.slice none 0 0] (⟨hh,rb,rc,rs,none,0,[],none,0,[],none,0,[],none,0,[],none,0,[],none,0,[]⟩:aq) 74 3 none 0 (eO []) (([]:List cN).map fun b=>(b.da,b.dc,b.bU)) [] W5):=
    ⟨HU.out,aH.nil _ _ _ _,fun s hs=>absurd hs (by simp),fun s hs=>absurd hs (by simp),HU.out.bl.mono fun b hb=>hb.2,Nat.le_refl _,HU.out.bK.lt⟩
   clear HU;go_wp2_with fail
   go_loopw [5] (fun nv wr=> ∃(k:Nat) (bs:List cN) (ba:Option Addr) (bc:Nat),k≤nb∧bs.length=k∧(∀j (h:j<bs.length),js bs[j] j hh)∧gC V T R X W5.heap.size a c l [i64 (hh:Int),.slice rb hh rc,.slice ba bs.length bc,.slice none 0 0,.slice none 0 0,.slice none 0 0,.slice none 0 0,.slice none 0 0] (⟨hh,rb,rc,rs,none,0,[],none,0,[],none,0,[],none,0,[],none,0,[],none,0,[]⟩:aq) 74 3 ba bc (eO bs) (bs.map fun b=>(b.da,b.dc,b.bU)) [] wr∧nv= .int .i64 ((nb-k:Nat):Int)) (fun nv _=>(intOf nv).toNat)
   case atStart=>exact ⟨0,[],none,0,Nat.zero_le _,rfl,fun j h=>absurd h (by simp),HP.out,rfl⟩
   case round=>
    obtain ⟨k,bs,ba,bc,hk,hbl,Sv,hP,rfl⟩:=hrel;clear HP;have HP:=ae hP;have zU:=ae Sv;have kp:=ae hbl
    clear hP Sv hbl;by_cases hlt:k<nb
    ·have b0:(0:Int)<((nb-k:Nat):Int):=by omega
     have Az:=ae (fun U=>sG U 98 k (by have:=iB.out;omega));go_upto_region 7 with fail
     go_cut [6] (fun v wx=> ∃(B:Nat) (da:Option Addr) (dc:Nat) (dm:List Int),v= .pointer (some ⟨B,0,none⟩)∧(dm.length=hh∧ ∀z∈dm,0≤z∧z<14)∧aG wx B 74 [.string (aL 98 k),.slice da hh dc,i64 0]∧(W5.heap.size≤B∧B≠T∧(∀q,ba=some q→q.block≠B)∧(∀s∈(bs.map fun b=>(b.da,b.dc,b.bU))++ [(da,dc,dm)],∀p,s.1=some p→p.block≠B))∧gC V T R X W5.heap.size a c l [i64 (hh:Int),.slice rb hh rc,.slice ba bs.length bc,.slice none 0 0,.slice none 0 0,.slice none 0 0,.slice none 0 0,.slice none 0 0] (⟨hh,rb,rc,rs,none,0,[],none,0,[],none,0,[],none,0,[],none,0,[],none,0,[]⟩:aq) 74 3 ba bc (eO bs) ((bs.map fun b=>(b.da,b.dc,b.bU))++ [(da,dc,dm)]) [] wx)
     case first=>
      as_aux_lemma=>
       refine ay (fun w'=>w'.cell? ⟨X,2,none⟩=some (.slice ba bs.length bc)∧w'.cell? ⟨X,0,none⟩=some (i64 (hh:Int))) (fun w'=>True) (fun i=>false) (by kernel_rfl) (⟨(HP.out.cw.bK.cell 2).trans rfl,(HP.out.cw.bK.cell 0).trans rfl⟩) (trivial) (fun ar ah=> ?_);refine av 0 (.pointer (some ⟨X,2,none⟩)) rfl ar ah ?_;simp only [Zqa,Zqb,Zqc,List.setIfInBounds_toArray,Zqd,Zqe,Act.put];refine av 1 (.slice ba bs.length bc) rfl ar ah ?_;simp only [Zqa,Zqb,Zqc,List.setIfInBounds_toArray,Zqd,Zqe,Act.put];refine av 2 (.int .i64 (bs.length:Int)) rfl ar ah ?_;simp only [Zqa,Zqb,Zqc,List.setIfInBounds_toArray,Zqd,Zqe,Act.put];refine av 4 (.pointer (some ⟨T,0,none⟩)) rfl ar ah ?_;simp only [Zqa,Zqb,Zqc,List.setIfInBounds_toArray,Zqd,Zqe,Act.put];refine av 5 (.pointer (some ⟨X,0,none⟩)) rfl ar ah ?_;simp only [Zqa,Zqb,Zqc,List.setIfInBounds_toArray,Zqd,Zqe,Act.put];refine av 6 (i64 (hh:Int)) rfl ar ah ?_;simp only [Zqa,Zqb,Zqc,List.setIfInBounds_toArray,Zqd,Zqe,Act.put];replace HP:=ae (HP.out.grow (Ext.refl wr).drew);generalize wr.drew=Y1 at*;refine aZ (rs:= [3,9]) (by kernel_rfl) (by simp) ?_;refine aD.cons rfl (fun Kc hK=> ?_) (aD.cons rfl (fun Kc hK=> ?_) aD.nil)
       ·go_simp
        rw [kp.out];refine (Az.out Y1).mono ?_;rintro e w1 ⟨rfl,eE⟩;rw [eE];clear eE;refine hK.out _ _ (⟨(HP.out.cw.bK.cell 2).trans rfl,(HP.out.cw.bK.cell 0).trans rfl⟩) (trivial) (fun ar ah=> ?_);clear hK Kc;try simp only [Zqa,Zqb,Zqc,List.setIfInBounds_toArray,Zqd,Zqe,Act.put]
        refine aZ (rs:= [7,9]) (by kernel_rfl) (by simp) ?_;refine aD.cons rfl (fun Kc hK=> ?_) (aD.cons rfl (fun Kc hK=> ?_) aD.nil)
        ·go_simp
         refine (C3.out Y1 HP.out.cw.ext HP.out.cw.tape 14 (by decide) (by decide)).mono ?_;rintro e Y2 ⟨da,dc,dm,rfl,rj,uq,hdr,vn,hT,hx⟩
         have Hv: ∀p,da=some p→p.block<Y2.heap.size:=fun p hp=>by
             obtain ⟨b3,o3,h4,h5⟩:=uq.cell 0 (by rw [rj];have:=HH.out;omega);rw [hp]at h4;cases h4
             exact cU h5
         have wk:Hid (dm.length=hh∧ ∀z∈dm,0≤z∧z<14):=⟨rj,hdr⟩;replace HP:=ae (HP.out.uU hT hx uq vn Hv);clear rj uq hdr vn hT hx Hv;refine hK.out _ _ (⟨(HP.out.cw.bK.cell 2).trans rfl,(HP.out.cw.bK.cell 0).trans rfl⟩) (trivial) (fun ar ah=> ?_);clear hK Kc;try simp only [Zqa,Zqb,Zqc,List.setIfInBounds_toArray,Zqd,Zqe,Act.put]
         refine av 8 (.agg #[.string (aL 98 k),.slice da hh dc,i64 0]) rfl ar ah ?_;simp only [Zqa,Zqb,Zqc,List.setIfInBounds_toArray,Zqd,Zqe,Act.put];refine cG 9 rfl (fun Kc hK=> ?_);go_simp;obtain ⟨Y3,pD,xa,-,AA⟩:=aB Y2 74 [.string {data:= #[]},.slice none 0 0,i64 0];rw [show Y2.alloc (.cells #[.string {data:= #[]},.slice none 0 0,i64 0] 74)=Y3 from pD.symm];obtain ⟨B,hB⟩: ∃B,B=Y2.heap.size:=⟨_,rfl⟩;rw [←hB]at AA⊢
         have og:Hid (W5.heap.size≤B∧B≠T∧(∀q,ba=some q→q.block≠B)∧(∀s∈((bs.map fun b=>(b.da,b.dc,b.bU))++ [(da,dc,dm)]),∀p,s.1=some p→p.block≠B)):=by
             rw [hB];exact ⟨HP.out.size,by have:=HP.out.cw.tape.lt;omega,HP.out.far.1,HP.out.far.2.1⟩
         have HB:=ae AA;replace HP:=ae (HP.out.grow xa);clear pD xa AA hB;refine hK.out _ _ (⟨(HP.out.cw.bK.cell 2).trans rfl,(HP.out.cw.bK.cell 0).trans rfl⟩) (trivial) (fun ar ah=> ?_);clear hK Kc;try simp only [Zqa,Zqb,Zqc,List.setIfInBounds_toArray,Zqd,Zqe,Act.put]
         refine cG 10 rfl (fun Kc hK=> ?_);have c0:=HB.out.cl 0 (.string {data:= #[]}) rfl;have c1:=HB.out.cl 1 (.slice none 0 0) rfl;have c2:=HB.out.cl 2 (i64 0) rfl;have f0:=HB.out.frozen 0;have f1:=HB.out.frozen 1;have f2:=HB.out.frozen 2;go_simp;replace HP:=ae (HP.out.but ((((ak.refl B Y3).et (o:=0) (v:= .string (aL 98 k))).et (o:=1) (v:= .slice da hh dc)).et (o:=2) (v:=i64 0)) og.out.1 og.out.2.2.1 og.out.2.2.2 (fun s hs=>absurd hs (by simp)));replace HB:Hid (aG (((Y3.setCell ⟨B,0,none⟩ (.string (aL 98 k))).setCell ⟨B,1,none⟩ (.slice da hh dc)).setCell ⟨B,2,none⟩ (i64 0)) B 74 [.string (aL 98 k),.slice da hh dc,i64 0]):=((HB.out.set 0 _).set 1 _).set 2 _;clear c0 c1 c2 f0 f1 f2;generalize (((Y3.setCell ⟨B,0,none⟩ (.string (aL 98 k))).setCell ⟨B,1,none⟩ (.slice da hh dc)).setCell ⟨B,2,none⟩ (i64 0))=Y4 at*;refine hK.out _ _ (⟨(HP.out.cw.bK.cell 2).trans rfl,(HP.out.cw.bK.cell 0).trans rfl⟩) (trivial) (fun ar ah=> ?_);clear hK Kc;try simp only [Zqa,Zqb,Zqc,List.setIfInBounds_toArray,Zqd,Zqe,Act.put]
         refine ax (by kernel_rfl) ?_ _;clear ar ah;go_wp2_with fail
         go_meet
         exact ⟨B,da,dc,dm,rfl,wk.out,HB.out,og.out,HP.out⟩
        ·go_simp
         obtain ⟨Y5,pD,xa,-,AA⟩:=aB Y1 74 [.string {data:= #[]},.slice none 0 0,i64 0];rw [show Y1.alloc (.cells #[.string {data:= #[]},.slice none 0 0,i64 0] 74)=Y5 from pD.symm];obtain ⟨B,hB⟩: ∃B,B=Y1.heap.size:=⟨_,rfl⟩;rw [←hB]at AA⊢
         have og:Hid (W5.heap.size≤B∧B≠T∧(∀q,ba=some q→q.block≠B)∧(∀s∈(bs.map fun b=>(b.da,b.dc,b.bU)),∀p,s.1=some p→p.block≠B)):=by
             rw [hB];exact ⟨HP.out.size,by have:=HP.out.cw.tape.lt;omega,HP.out.far.1,HP.out.far.2.1⟩
         have HB:=ae AA;replace HP:=ae (HP.out.grow xa);clear pD xa AA hB;refine hK.out _ _ (⟨(HP.out.cw.bK.cell 2).trans rfl,(HP.out.cw.bK.cell 0).trans rfl⟩) (trivial) (fun ar ah=> ?_);clear hK Kc;try simp only [Zqa,Zqb,Zqc,List.setIfInBounds_toArray,Zqd,Zqe,Act.put]
         refine cG 7 rfl (fun Kc hK=> ?_);go_simp;refine (C3.out Y5 HP.out.cw.ext HP.out.cw.tape 14 (by decide) (by decide)).mono ?_;rintro e Y6 ⟨da,dc,dm,rfl,rj,uq,hdr,vn,hT,hx⟩
         have Hv: ∀p,da=some p→p.block<Y6.heap.size:=fun p hp=>by
             obtain ⟨b3,o3,h4,h5⟩:=uq.cell 0 (by rw [rj];have:=HH.out;omega);rw [hp]at h4;cases h4
             exact cU h5
         have wk:Hid (dm.length=hh∧ ∀z∈dm,0≤z∧z<14):=⟨rj,hdr⟩;have hBl:=HB.out.lt
         replace og:Hid (W5.heap.size≤B∧B≠T∧(∀q,ba=some q→q.block≠B)∧(∀s∈((bs.map fun b=>(b.da,b.dc,b.bU))++ [(da,dc,dm)]),∀p,s.1=some p→p.block≠B)):=by
             refine ⟨og.out.1,og.out.2.1,og.out.2.2.1,fun s hs p hp=> ?_⟩;rcases List.mem_append.1 hs with q|q
             ·exact og.out.2.2.2 s q p hp
             ·rw [List.mem_singleton]at q;subst q
              have:=vn p hp;omega
         replace HB:=ae (HB.out.but hx og.out.2.1);clear hBl;replace HP:=ae (HP.out.uU hT hx uq vn Hv);clear rj uq hdr vn hT hx Hv;refine hK.out _ _ (⟨(HP.out.cw.bK.cell 2).trans rfl,(HP.out.cw.bK.cell 0).trans rfl⟩) (trivial) (fun ar ah=> ?_);clear hK Kc;try simp only [Zqa,Zqb,Zqc,List.setIfInBounds_toArray,Zqd,Zqe,Act.put]
         refine av 8 (.agg #[.string (aL 98 k),.slice da hh dc,i64 0]) rfl ar ah ?_;simp only [Zqa,Zqb,Zqc,List.setIfInBounds_toArray,Zqd,Zqe,Act.put];refine cG 10 rfl (fun Kc hK=> ?_);have c0:=HB.out.cl 0 (.string {data:= #[]}) rfl;have c1:=HB.out.cl 1 (.slice none 0 0) rfl;have c2:=HB.out.cl 2 (i64 0) rfl;have f0:=HB.out.frozen 0;have f1:=HB.out.frozen 1;have f2:=HB.out.frozen 2;go_simp;replace HP:=ae (HP.out.but ((((ak.refl B Y6).et (o:=0) (v:= .string (aL 98 k))).et (o:=1) (v:= .slice da hh dc)).et (o:=2) (v:=i64 0)) og.out.1 og.out.2.2.1 og.out.2.2.2 (fun s hs=>absurd hs (by simp)));replace HB:Hid (aG (((Y6.setCell ⟨B,0,none⟩ (.string (aL 98 k))).setCell ⟨B,1,none⟩ (.slice da hh dc)).setCell ⟨B,2,none⟩ (i64 0)) B 74 [.string (aL 98 k),.slice da hh dc,i64 0]):=((HB.out.set 0 _).set 1 _).set 2 _;clear c0 c1 c2 f0 f1 f2;generalize (((Y6.setCell ⟨B,0,none⟩ (.string (aL 98 k))).setCell ⟨B,1,none⟩ (.slice da hh dc)).setCell ⟨B,2,none⟩ (i64 0))=Y7 at*;refine hK.out _ _ (⟨(HP.out.cw.bK.cell 2).trans rfl,(HP.out.cw.bK.cell 0).trans rfl⟩) (trivial) (fun ar ah=> ?_);clear hK Kc;try simp only [Zqa,Zqb,Zqc,List.setIfInBounds_toArray,Zqd,Zqe,Act.put]
         refine ax (by kernel_rfl) ?_ _;clear ar ah;go_wp2_with fail
         go_meet
         exact ⟨B,da,dc,dm,rfl,wk.out,HB.out,og.out,HP.out⟩
       ·go_simp
        obtain ⟨Y8,pD,xa,-,AA⟩:=aB Y1 74 [.string {data:= #[]},.slice none 0 0,i64 0];rw [show Y1.alloc (.cells #[.string {data:= #[]},.slice none 0 0,i64 0] 74)=Y8 from pD.symm];obtain ⟨B,hB⟩: ∃B,B=Y1.heap.size:=⟨_,rfl⟩;rw [←hB]at AA⊢
        have og:Hid (W5.heap.size≤B∧B≠T∧(∀q,ba=some q→q.block≠B)∧(∀s∈(bs.map fun b=>(b.da,b.dc,b.bU)),∀p,s.1=some p→p.block≠B)):=by
             rw [hB];exact ⟨HP.out.size,by have:=HP.out.cw.tape.lt;omega,HP.out.far.1,HP.out.far.2.1⟩
        have HB:=ae AA;replace HP:=ae (HP.out.grow xa);clear pD xa AA hB;refine hK.out _ _ (⟨(HP.out.cw.bK.cell 2).trans rfl,(HP.out.cw.bK.cell 0).trans rfl⟩) (trivial) (fun ar ah=> ?_);clear hK Kc;try simp only [Zqa,Zqb,Zqc,List.setIfInBounds_toArray,Zqd,Zqe,Act.put]
        refine cG 3 rfl (fun Kc hK=> ?_);go_simp;rw [kp.out];refine (Az.out Y8).mono ?_;rintro e w1 ⟨rfl,eE⟩;rw [eE];clear eE;refine hK.out _ _ (⟨(HP.out.cw.bK.cell 2).trans rfl,(HP.out.cw.bK.cell 0).trans rfl⟩) (trivial) (fun ar ah=> ?_);clear hK Kc;try simp only [Zqa,Zqb,Zqc,List.setIfInBounds_toArray,Zqd,Zqe,Act.put]
        refine cG 7 rfl (fun Kc hK=> ?_);go_simp;refine (C3.out Y8 HP.out.cw.ext HP.out.cw.tape 14 (by decide) (by decide)).mono ?_;rintro e Y9 ⟨da,dc,dm,rfl,rj,uq,hdr,vn,hT,hx⟩
        have Hv: ∀p,da=some p→p.block<Y9.heap.size:=fun p hp=>by
             obtain ⟨b3,o3,h4,h5⟩:=uq.cell 0 (by rw [rj];have:=HH.out;omega);rw [hp]at h4;cases h4
             exact cU h5
        have wk:Hid (dm.length=hh∧ ∀z∈dm,0≤z∧z<14):=⟨rj,hdr⟩;have hBl:=HB.out.lt
        replace og:Hid (W5.heap.size≤B∧B≠T∧(∀q,ba=some q→q.block≠B)∧(∀s∈((bs.map fun b=>(b.da,b.dc,b.bU))++ [(da,dc,dm)]),∀p,s.1=some p→p.block≠B)):=by
             refine ⟨og.out.1,og.out.2.1,og.out.2.2.1,fun s hs p hp=> ?_⟩;rcases List.mem_append.1 hs with q|q
             ·exact og.out.2.2.2 s q p hp
             ·rw [List.mem_singleton]at q;subst q
              have:=vn p hp;omega
        replace HB:=ae (HB.out.but hx og.out.2.1);clear hBl;replace HP:=ae (HP.out.uU hT hx uq vn Hv);clear rj uq hdr vn hT hx Hv;refine hK.out _ _ (⟨(HP.out.cw.bK.cell 2).trans rfl,(HP.out.cw.bK.cell 0).trans rfl⟩) (trivial) (fun ar ah=> ?_);clear hK Kc;try simp only [Zqa,Zqb,Zqc,List.setIfInBounds_toArray,Zqd,Zqe,Act.put]
        refine av 8 (.agg #[.string (aL 98 k),.slice da hh dc,i64 0]) rfl ar ah ?_;simp only [Zqa,Zqb,Zqc,List.setIfInBounds_toArray,Zqd,Zqe,Act.put];refine cG 10 rfl (fun Kc hK=> ?_);have c0:=HB.out.cl 0 (.string {data:= #[]}) rfl;have c1:=HB.out.cl 1 (.slice none 0 0) rfl;have c2:=HB.out.cl 2 (i64 0) rfl;have f0:=HB.out.frozen 0;have f1:=HB.out.frozen 1;have f2:=HB.out.frozen 2;go_simp;replace HP:=ae (HP.out.but ((((ak.refl B Y9).et (o:=0) (v:= .string (aL 98 k))).et (o:=1) (v:= .slice da hh dc)).et (o:=2) (v:=i64 0)) og.out.1 og.out.2.2.1 og.out.2.2.2 (fun s hs=>absurd hs (by simp)));replace HB:Hid (aG (((Y9.setCell ⟨B,0,none⟩ (.string (aL 98 k))).setCell ⟨B,1,none⟩ (.slice da hh dc)).setCell ⟨B,2,none⟩ (i64 0)) B 74 [.string (aL 98 k),.slice da hh dc,i64 0]):=((HB.out.set 0 _).set 1 _).set 2 _;clear c0 c1 c2 f0 f1 f2;generalize (((Y9.setCell ⟨B,0,none⟩ (.string (aL 98 k))).setCell ⟨B,1,none⟩ (.slice da hh dc)).setCell ⟨B,2,none⟩ (i64 0))=RN at*;refine hK.out _ _ (⟨(HP.out.cw.bK.cell 2).trans rfl,(HP.out.cw.bK.cell 0).trans rfl⟩) (trivial) (fun ar ah=> ?_);clear hK Kc;try simp only [Zqa,Zqb,Zqc,List.setIfInBounds_toArray,Zqd,Zqe,Act.put]
        refine ax (by kernel_rfl) ?_ _;clear ar ah;go_wp2_with fail
        go_meet
        exact ⟨B,da,dc,dm,rfl,wk.out,HB.out,og.out,HP.out⟩
     case rest=>
      obtain ⟨B,da,dc,dm,rfl,RU,hB,ZY,hP⟩:=hcut;generalize wc=WB at*;clear HP;have HP:=ae hP;have HB:=ae hB;have og:=ae ZY;have wk:=ae RU
      clear hP hB ZY RU;go_wp2_with fail
      refine (eQ.out WB 2 (HP.out.cw.ext.but T) HP.out.cw.tape (by decide) (by decide)).mono ?_;rintro e W6 ⟨q,rfl,G4,hT,hx⟩;replace HP:=ae (HP.out.next hT hx);replace HB:=ae (HB.out.but hx og.out.2.1);clear hT hx G4;go_upto_if 47 with fail
      go_cut [] (fun wx=> ∃sh:Int,(sh=0∨(100≤sh∧sh<300))∧aG wx B 74 [.string (aL 98 k),.slice da hh dc,i64 sh]∧gC V T R X W5.heap.size a c l [i64 (hh:Int),.slice rb hh rc,.slice ba bs.length bc,.slice none 0 0,.slice none 0 0,.slice none 0 0,.slice none 0 0,.slice none 0 0] (⟨hh,rb,rc,rs,none,0,[],none,0,[],none,0,[],none,0,[],none,0,[],none,0,[]⟩:aq) 74 3 ba bc (eO bs) ((bs.map fun b=>(b.da,b.dc,b.bU))++ [(da,dc,dm)]) [] wx)
      case first=>
       as_aux_lemma=>
        rcases Bool.eq_false_or_eq_true (q==1)with hq|hq
        ·go_wp2_with fail
         refine (eQ.out W6 200 (HP.out.cw.ext.but T) HP.out.cw.tape (by decide) (by decide)).mono ?_;rintro e W7 ⟨y,rfl,Bz,hT,hx⟩;replace HP:=ae (HP.out.next hT hx);replace HB:=ae (HB.out.but hx og.out.2.1);clear hT hx;have q1:IntKind.i64.wrap (100+y)=100+y:=by rw [IntKind.wrap_i64];omega
         have HY:=ae Bz;clear Bz;have c2:=HB.out.cl 2 (i64 0) rfl;have f2:=HB.out.frozen 2;replace HP:=ae (HP.out.but ((ak.refl B W7).et (o:=2) (v:=i64 (100+y))) og.out.1 og.out.2.2.1 og.out.2.2.2 (fun s hs=>absurd hs (by simp)));replace HB:Hid (aG (W7.setCell ⟨B,2,none⟩ (i64 (100+y))) B 74 [.string (aL 98 k),.slice da hh dc,i64 (100+y)]):=HB.out.set 2 _;go_wp2_with fail
         go_meet
         exact ⟨100+y,Or.inr (by have:=HY.out;omega),HB.out,HP.out⟩
        ·go_wp2_with fail
         go_meet
         exact ⟨0,Or.inl rfl,HB.out,HP.out⟩
      case rest=>
       obtain ⟨sh,Pg,hB,hP⟩:=hcut;generalize wc=WC at*;clear HP HB;have HP:=ae hP;have HB:=ae hB;have HSH:=ae Pg
       clear hP hB Pg;have c2:WC.cell? ⟨X,2,none⟩=some (.slice ba bs.length bc):=(HP.out.cw.bK.cell 2).trans rfl;have b0:=HB.out.cl 0 (.string (aL 98 k)) rfl;have b1:=HB.out.cl 1 (.slice da hh dc) rfl;have b2:=HB.out.cl 2 (i64 sh) rfl;have O5:=ae ((Ext.refl WC).alloc (.cells #[.string (aL 98 k),.slice da hh dc,i64 sh] 74))
       have HOW:Hid ((WC.alloc (.cells #[.string (aL 98 k),.slice da hh dc,i64 sh] 74)).ownsRow W5.heap.size 74 3 (.slice ba bs.length bc) bs.length (eO bs).flatten):=by
        have h5:=(HP.out.own.ext O5.out).own;rw [fY]at h5;exact h5
       have hD:=HP.out.size;have Tc:bs.length≤4:=by have:=kp.out;have:=iB.out;omega
       go_wp2_with (
        at_builtin
        refine aV _ rfl _ _ 25 rfl W5.heap.size 74 (.agg #[.string ByteArray.empty,.slice none 0 0,i64 0]) 3 48 Tryz.underlying25 Tryz.info_bus rfl (by decide) (.slice ba bs.length bc) bs.length (eO bs).flatten rfl ?c1 (some ⟨WC.heap.size,0,none⟩) 1 1 [.string (aL 98 k),.slice da hh dc,i64 sh] rfl rfl ?c2 ?c3 ?c4 ?c5 (by decide) ?c6 ?_
        case c1=>exact HOW.out
        case c2=>exact fun _=>⟨_,rfl,cC WC 74 [.string (aL 98 k),.slice da hh dc,i64 sh]⟩
        case c3=>intro u hu;simp only [List.mem_cons,List.not_mem_nil,or_false]at hu;rcases hu with rfl|rfl|rfl<;>rfl
        case c4=>intro e;cases e
        case c5=>omega
        case c6=>simp;omega
        intro v1 w5 ho he hb hz hv;obtain ⟨g2,k2,rfl,c2',f2',mg⟩:=Hy (HP.out.grow O5.out) wk.out.1 ho.out he.out hb.out hz.out hv.out;obtain ⟨NP,NQ⟩: ∃NP,NP=bs++ [(⟨aL 98 k,da,dc,dm,sh⟩:cN)]:=⟨_,rfl⟩;rw [←NQ]at mg⊢;have Ii:=ae mg;have qf:=ae NQ;clear HP HB HOW ho he hb hz hv hD Tc mg c2 b0 b1 b2 O5 NQ)
       go_upto_region 6 with fail
       clear c2' f2';generalize (w5.setCell ⟨X,2,none⟩ (.slice g2 NP.length k2))=W8 at*;have q3:wrap64 (((nb-k:Nat):Int)-1)=((nb-(k+1):Nat):Int):=by unfold wrap64;have:=iB.out;omega
       have Ww:Hid (∀j (h:j<NP.length),js NP[j] j hh):=by
        have h5:=js.snoc (b:=(⟨aL 98 k,da,dc,dm,sh⟩:cN)) zU.out ⟨by rw [kp.out],wk.out.1,wk.out.2,HSH.out⟩;rw [←qf.out]at h5;exact h5
       have hl2:Hid (NP.length=k+1):=by show _=_;rw [qf.out,List.length_append,kp.out];rfl
       go_wp2_with fail
       exact ⟨⟨k+1,NP,g2,k2,by omega,hl2.out,Ww.out,Ii.out,congrArg (Value.int IntKind.i64) q3⟩,Nat.lt_of_le_of_lt (Nat.le_of_eq (congrArg Int.toNat q3)) (by show(((nb-(k+1):Nat):Int)).toNat<(((nb-k:Nat):Int)).toNat;omega)⟩
    ·obtain rfl:k=nb:=by omega
     clear hlt hk;have HC:Hid (CW V T R X a c l [i64 (hh:Int),.slice rb hh rc,.slice ba bs.length bc,.slice none 0 0,.slice none 0 0,.slice none 0 0,.slice none 0 0,.slice none 0 0] (⟨hh,rb,rc,rs,ba,bc,bs,none,0,[],none,0,[],none,0,[],none,0,[],none,0,[]⟩:aq) wr):=Hz HP.out zU.out (by have:=kp.out;have:=iB.out;omega);clear HP;rw [kp.out]at HC;rw [Nat.sub_self k,show((0:Nat):Int)=0 from rfl];go_wp2_with fail
     go_meet
     exact ⟨bs,ba,bc,kp.out,zU.out,HC.out⟩
 case rest=>
  obtain ⟨bs,ba,bc,hbl,Sv,hC⟩:=hcut;generalize wc=WL at*;clear HU;have HC:=ae hC;have zU:=ae Sv;have kp:=ae hbl
  clear hC Sv hbl;go_step
  exact Ik V T R X a c l hh nb rc bc rb ba rs bs HL m_ HH Ca iB zU kp WL HC
end Go.Proofs.YtkpngkdgphojlaaGreat
