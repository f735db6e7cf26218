/- Texts of the proof. -/
import Derived.Test.YtbnamicbjaaelaaGreatCg49
set_option linter.all false
set_option maxHeartbeats 40000000
set_option maxRecDepth 100000
namespace Go.Proofs.YtbnamicbjaaelaaGreat
open Go.Proofs.Tryz
open Go.RowKit
theorem Pg (V:World) (a:Option Addr) (c:Nat) (l:List Int) (hl:aS V a c l):
 Calls prog 8 #[.slice a l.length c] V λe w'=> ∃(hh nb:Nat) (x:ay),e= .returned (.agg x.cells.toArray)/\bm w' x/\gU hh nb x/\cE x=0/\(cP (λb=>V.heap.size<=b) x/\eE w' x/\cP (λb=>b<w'.heap.size) x)/\Ext V w':=by
 have HL:=ah hl;clear hl;go_enter func8,ntmps8
 go_upto_region 1 with fail
 obtain ⟨W0,hW,x0,Z0,A0⟩:=aV V 32 kG.cells;rw [show V.alloc (.cells #[i64 0,.slice none 0 0,.slice none 0 0,.slice none 0 0,.slice none 0 0,.slice none 0 0,.slice none 0 0,.slice none 0 0] 32)=W0 from hW.symm];obtain ⟨R,hR⟩: ∃R,R=V.heap.size:=⟨_,rfl⟩;rw [<-hR]at A0⊢;have acS:W0.heap.size=V.heap.size+1:=by rw [hW];simp
 have HR:=ah A0;have HX:=ah x0
 clear hW Z0 A0 x0;go_wp2_with fail
 refine (L9 W0 a c l).mono ?_;rintro e W1 ⟨rfl,hT,hx⟩;obtain ⟨T,XC⟩: ∃T,T=W0.heap.size:=⟨_,rfl⟩;rw [<-XC]at hT⊢;have sO:R≠T:=ae;have oq:Hid (V.heap.size<=T/\V.heap.size<=R):=by show _/\_;omega
 have HT:=ah hT;replace HX:=ah (HX.o.trans hx);replace HR:=ah (HR.o.ext hx)
 have gl:=ah (fY.of V V T a c l oq.o.1 (Ext.refl V) HL.o);clear XC hT hx acS hR;go_wp2_with fail
 refine (gl.o W1 3 (HX.o.but T) HT.o aq aq).mono ?_;rintro e W2 ⟨hv,rfl,acT,hT,hx⟩;replace HR:=ah (HR.o.but hx sO);replace HX:=ah (hx.ext HX.o oq.o.1);replace HT:=ah hT
 clear hT hx;obtain ⟨hh,hhe⟩: ∃hh:Nat,1+hv=(hh:Int):=⟨(1+hv).toNat,ae⟩;have HH:Hid (1<=hh/\hh<=3):=by show _/\_;omega
 have q1:IntKind.i64.wrap (1+hv)=(hh:Int):=dW;clear acT hhe;go_upto_region 3 with fail
 clear q1;obtain ⟨WX,Hk,xx,-,AX⟩:=aV W2 32 [i64 (hh:Int),.slice none 0 0,.slice none 0 0,.slice none 0 0,.slice none 0 0,.slice none 0 0,.slice none 0 0,.slice none 0 0];rw [show W2.alloc (.cells #[i64 (hh:Int),.slice none 0 0,.slice none 0 0,.slice none 0 0,.slice none 0 0,.slice none 0 0,.slice none 0 0,.slice none 0 0] 32)=WX from Hk.symm];obtain ⟨X,Nu⟩: ∃X,X=W2.heap.size:=⟨_,rfl⟩;rw [<-Nu]at AX⊢
 have HU:Hid (CW V T R X a c l [i64 (hh:Int),.slice none 0 0,.slice none 0 0,.slice none 0 0,.slice none 0 0,.slice none 0 0,.slice none 0 0,.slice none 0 0] (⟨hh,none,0,[],none,0,[],none,0,[],none,0,[],none,0,[],none,0,[],none,0,[]⟩:ay) WX):=by
  have h1:=HT.o.lt;have h2:=HR.o.lt
  refine ⟨HT.o.ext xx,AX,HR.o.ext xx,HX.o.trans xx,?_,?_,⟨oq.o.1,oq.o.2,sO.symm,ae,ae⟩,⟨jG.none _ _,jG.none _ _,jG.none _ _,jG.none _ _,jG.none _ _,jG.none _ _,⟨λp hp=>(by cases hp),λb hb=>(by cases hb),λb hb=>(by cases hb),λb hb=>(by cases hb),λb hb=>(by cases hb),λb hb=>(by cases hb)⟩⟩⟩
  .have h5:=HH.o
   exact ⟨by unfold b_;simp only;omega,aS.nil _,ct.nil' _ _,λb hb=>(by cases hb),ct.nil' _ _,λb hb=>(by cases hb),ct.nil' _ _,λb hb=>(by cases hb),ct.nil' _ _,λb hb=>(by cases hb),ct.nil' _ _,λb hb=>(by cases hb),ct.nil' _ _,λb hb=>(by cases hb)⟩
  .exact ⟨eY.none _,eY.none _,λb hb=>(by cases hb),eY.none _,λb hb=>(by cases hb),eY.none _,λb hb=>(by cases hb),eY.none _,eY.none _,λb hb=>(by cases hb),eY.none _,λb hb=>(by cases hb)⟩
 clear Hk Nu xx AX HT HR HX;have H9:=ah (λU (hx:Ext V U) (hU:bO U T a c l) (m:Int) (hm:0<m) (ri:m<1000000)=>lB V U T a c l hh m oq.o.1 hx HL.o hU (bA HH.o) hm ri);have c0:WX.cell? ⟨X,0,none⟩=some (i64 (hh:Int)):=(HU.o.cg.cell 0).trans rfl;go_wp2_with fail
 refine (H9.o WX HU.o.ext HU.o.tape 5 aq aq).mono ?_;rintro e W3 ⟨rb,rc,rs,rfl,Kf,Uq,Nj,Ju,hT,hx⟩;have Sg:=ah (HU.o.next hT hx);have Cr:Hid (rs.length=hh/\ ∀z∈rs,0<=z/\z<5):=⟨Kf,Nj⟩;have c1:W3.cell? ⟨X,1,none⟩=some (.slice none 0 0):=(Sg.o.cg.cell 1).trans rfl;have f1:=Sg.o.cg.frozen 1
 have HU4:Hid (CW V T R X a c l [i64 (hh:Int),.slice rb hh rc,.slice none 0 0,.slice none 0 0,.slice none 0 0,.slice none 0 0,.slice none 0 0,.slice none 0 0] (⟨hh,rb,rc,rs,none,0,[],none,0,[],none,0,[],none,0,[],none,0,[],none,0,[]⟩:ay) (W3.setCell ⟨X,1,none⟩ (.slice rb hh rc))):=by
  have h:=Sg.o;refine h.set 1 _ {h.case' with aX:=Uq} {h.bl with aX:=λp hp=> ?_} {h.sep with off:={h.sep.off with aX:=λp hp q hq=>(by rcases hq with e|e|e|e|e|e<;>cases e)}};replace hp:rb=some p:=hp;have h1:=Ju p hp;have h2:=HU.o.cg.lt
  show X<p.block/\p.block<W3.heap.size;have h3:0<rs.length:=by rw [Kf];have:=HH.o;omega
  obtain ⟨b3,o3,h4,h5⟩:=Uq.cell 0 h3;rw [hp]at h4;cases h4
  have h6:=cY h5;simp only at h1 h6⊢;omega
 clear c0 HU Sg hT hx Uq Nj Ju Kf;go_upto_region 4 with fail
 clear c1 f1;have HU:=HU4;clear HU4;generalize (W3.setCell ⟨X,1,none⟩ (.slice rb hh rc))=W4 at*;go_wp2_with fail
 refine (gl.o W4 4 (HU.o.ext.but T) HU.o.tape aq aq).mono ?_;rintro e W5 ⟨nv,rfl,acU,hT,hx⟩;replace HU:=ah (HU.o.next hT hx);clear hT hx;obtain ⟨nb,Tf⟩: ∃nb:Nat,1+nv=(nb:Int):=⟨(1+nv).toNat,ae⟩;have jC:Hid (1<=nb/\nb<=4):=by show _/\_;omega
 have q1:IntKind.i64.wrap (1+nv)=(nb:Int):=dW;clear acU Tf
 go_upto_block 0 with fail
 clear q1;go_cut [] (λwx=> ∃(bs:List dK) (ba:Option Addr) (bc:Nat),bs.length=nb/\(∀j (h:j<bs.length),kH bs[j] j hh)/\CW V T R X a c l [i64 (hh:Int),.slice rb hh rc,.slice ba nb bc,.slice none 0 0,.slice none 0 0,.slice none 0 0,.slice none 0 0,.slice none 0 0] (⟨hh,rb,rc,rs,ba,bc,bs,none,0,[],none,0,[],none,0,[],none,0,[],none,0,[]⟩:ay) wx)
 case first=>
  as_aux_lemma=>
   have HP:Hid (iQ V T R X W5.heap.size a c l [i64 (hh:Int),.slice rb hh rc,.slice none ([]:List dK).length 0,.slice none 0 0,.slice none 0 0,.slice none 0 0,.slice none 0 0,.slice none 0 0] (⟨hh,rb,rc,rs,none,0,[],none,0,[],none,0,[],none,0,[],none,0,[],none,0,[]⟩:ay) 62 3 none 0 (gh []) (([]:List dK).map λb=>(b.da,b.dc,b.cV)) [] W5):=
    ⟨HU.o,aL.nil _ _ _ _,λs hs=>absurd hs aG,λs hs=>absurd hs aG,HU.o.bl.mono λb hb=>hb.2,bY,HU.o.cg.lt⟩
   clear HU;go_wp2
   go_loopw [5] (λnv wr=> ∃(k:Nat) (bs:List dK) (ba:Option Addr) (bc:Nat),k<=nb/\bs.length=k/\(∀j (h:j<bs.length),kH bs[j] j hh)/\iQ V T R X W5.heap.size a c l [i64 (hh:Int),.slice rb hh rc,.slice ba bs.length bc,.slice none 0 0,.slice none 0 0,.slice none 0 0,.slice none 0 0,.slice none 0 0] (⟨hh,rb,rc,rs,none,0,[],none,0,[],none,0,[],none,0,[],none,0,[],none,0,[]⟩:ay) 62 3 ba bc (gh bs) (bs.map λb=>(b.da,b.dc,b.cV)) [] wr/\nv= .int .i64 ((nb-k:Nat):Int)) (λnv _=>(intOf nv).toNat)
   case atStart=>exact ⟨0,[],none,0,aZ,rfl,λj h=>absurd h aG,HP.o,rfl⟩
   case round=>
    obtain ⟨k,bs,ba,bc,hk,hbl,X3,hP,rfl⟩:=hrel;clear HP;have HP:=ah hP;have Et:=ah X3;have lK:=ah hbl
    clear hP X3 hbl;by_cases hlt:k<nb
    .have b0:(0:Int)<((nb-k:Nat):Int):=ae
     have FC:=ah (λU=>wu U 98 k (bA jC.o));go_upto_region 7 with fail
     go_cut [6] (λv wx=> ∃(B:Nat) (da:Option Addr) (dc:Nat) (dm:List Int),v= .pointer (some ⟨B,0,none⟩)/\(dm.length=hh/\ ∀z∈dm,0<=z/\z<14)/\aT wx B 62 [.string (aW 98 k),.slice da hh dc,i64 0]/\(W5.heap.size<=B/\B≠T/\(∀q,ba=some q->q.block≠B)/\(∀s∈(bs.map λb=>(b.da,b.dc,b.cV))++ [(da,dc,dm)],∀p,s.1=some p->p.block≠B))/\iQ V T R X W5.heap.size a c l [i64 (hh:Int),.slice rb hh rc,.slice ba bs.length bc,.slice none 0 0,.slice none 0 0,.slice none 0 0,.slice none 0 0,.slice none 0 0] (⟨hh,rb,rc,rs,none,0,[],none,0,[],none,0,[],none,0,[],none,0,[],none,0,[]⟩:ay) 62 3 ba bc (gh bs) ((bs.map λb=>(b.da,b.dc,b.cV))++ [(da,dc,dm)]) [] wx)
     case first=>
      as_aux_lemma=>
       refine aO (λw'=>w'.cell? ⟨X,2,none⟩=some (.slice ba bs.length bc)/\w'.cell? ⟨X,0,none⟩=some (i64 (hh:Int))) (λw'=>True) (λi=>false) ax (⟨(HP.o.cw.cg.cell 2).trans rfl,(HP.o.cw.cg.cell 0).trans rfl⟩) (trivial) (λaD ai=> ?_);refine aJ 0 aD ai ?_;refine aJ 1 aD ai ?_;refine aJ 2 aD ai ?_ (v:= .int .i64 (bs.length:Int));refine aJ 4 aD ai ?_;refine aJ 5 aD ai ?_;refine aJ 6 aD ai ?_ (v:=i64 (hh:Int));replace HP:=ah (HP.o.grow (Ext.refl wr).drew);generalize wr.drew=Y1 at*;refine bH (rs:= [3,9]) ax aG ?_;refine aQ.cons rfl (λKc hK=> ?_) (aQ.cons rfl (λKc hK=> ?_) aQ.nil)
       .go_simp
        rw [lK.o];refine (FC.o Y1).mono ?_;rintro e w1 ⟨rfl,eL⟩;rw [eL];clear eL;refine hK.o _ _ (⟨(HP.o.cw.cg.cell 2).trans rfl,(HP.o.cw.cg.cell 0).trans rfl⟩) (trivial) (λaD ai=> ?_);clear hK Kc;try simp only [j8,j9,j_,List.setIfInBounds_toArray,ke,kf,Act.put]
        refine bH (rs:= [7,9]) ax aG ?_;refine aQ.cons rfl (λKc hK=> ?_) (aQ.cons rfl (λKc hK=> ?_) aQ.nil)
        .go_simp
         refine (H9.o Y1 HP.o.cw.ext HP.o.cw.tape 14 aq aq).mono ?_;rintro e Y2 ⟨da,dc,dm,rfl,uY,yr,hdr,yO,hT,hx⟩
         have J4: ∀p,da=some p->p.block<Y2.heap.size:=λp hp=>by
             obtain ⟨b3,o3,h4,h5⟩:=yr.cell 0 (by rw [uY];have:=HH.o;omega);rw [hp]at h4;cases h4
             exact cY h5
         have vk:Hid (dm.length=hh/\ ∀z∈dm,0<=z/\z<14):=⟨uY,hdr⟩;replace HP:=ah (HP.o.Gp hT hx yr yO J4);clear uY yr hdr yO hT hx J4;refine hK.o _ _ (⟨(HP.o.cw.cg.cell 2).trans rfl,(HP.o.cw.cg.cell 0).trans rfl⟩) (trivial) (λaD ai=> ?_);clear hK Kc;try simp only [j8,j9,j_,List.setIfInBounds_toArray,ke,kf,Act.put]
         refine aJ 8 aD ai ?_ (v:= .agg #[.string (aW 98 k),.slice da hh dc,i64 0]);refine eI 9 rfl (λKc hK=> ?_);go_simp;obtain ⟨Y3,sV,xa,-,AA⟩:=aV Y2 62 [.string {data:= #[]},.slice none 0 0,i64 0];rw [show Y2.alloc (.cells #[.string {data:= #[]},.slice none 0 0,i64 0] 62)=Y3 from sV.symm];obtain ⟨B,hB⟩: ∃B,B=Y2.heap.size:=⟨_,rfl⟩;rw [<-hB]at AA⊢
         have qg:Hid (W5.heap.size<=B/\B≠T/\(∀q,ba=some q->q.block≠B)/\(∀s∈((bs.map λb=>(b.da,b.dc,b.cV))++ [(da,dc,dm)]),∀p,s.1=some p->p.block≠B)):=by
             rw [hB];exact ⟨HP.o.size,bA HP.o.cw.tape.lt,HP.o.far.1,HP.o.far.2.1⟩
         have HB:=ah AA;replace HP:=ah (HP.o.grow xa);clear sV xa AA hB;refine hK.o _ _ (⟨(HP.o.cw.cg.cell 2).trans rfl,(HP.o.cw.cg.cell 0).trans rfl⟩) (trivial) (λaD ai=> ?_);clear hK Kc;try simp only [j8,j9,j_,List.setIfInBounds_toArray,ke,kf,Act.put]
         refine eI 10 rfl (λKc hK=> ?_);have c0:=HB.o.cl 0 (.string {data:= #[]}) rfl;have c1:=HB.o.cl 1 (.slice none 0 0) rfl;have c2:=HB.o.cl 2 (i64 0) rfl;have f0:=HB.o.frozen 0;have f1:=HB.o.frozen 1;have f2:=HB.o.frozen 2;go_simp;replace HP:=ah (HP.o.but ((((aB.refl B Y3).ez (o:=0) (v:= .string (aW 98 k))).ez (o:=1) (v:= .slice da hh dc)).ez (o:=2) (v:=i64 0)) qg.o.1 qg.o.2.2.1 qg.o.2.2.2 (λs hs=>absurd hs aG));replace HB:Hid (aT (((Y3.setCell ⟨B,0,none⟩ (.string (aW 98 k))).setCell ⟨B,1,none⟩ (.slice da hh dc)).setCell ⟨B,2,none⟩ (i64 0)) B 62 [.string (aW 98 k),.slice da hh dc,i64 0]):=((HB.o.set 0 _).set 1 _).set 2 _;clear c0 c1 c2 f0 f1 f2;generalize (((Y3.setCell ⟨B,0,none⟩ (.string (aW 98 k))).setCell ⟨B,1,none⟩ (.slice da hh dc)).setCell ⟨B,2,none⟩ (i64 0))=Y4 at*;refine hK.o _ _ (⟨(HP.o.cw.cg.cell 2).trans rfl,(HP.o.cw.cg.cell 0).trans rfl⟩) (trivial) (λaD ai=> ?_);clear hK Kc;try simp only [j8,j9,j_,List.setIfInBounds_toArray,ke,kf,Act.put]
         refine aI ax ?_ _;clear aD ai;go_wp2
         go_meet
         exact ⟨B,da,dc,dm,rfl,vk.o,HB.o,qg.o,HP.o⟩
        .go_simp
         obtain ⟨Y5,sV,xa,-,AA⟩:=aV Y1 62 [.string {data:= #[]},.slice none 0 0,i64 0];rw [show Y1.alloc (.cells #[.string {data:= #[]},.slice none 0 0,i64 0] 62)=Y5 from sV.symm];obtain ⟨B,hB⟩: ∃B,B=Y1.heap.size:=⟨_,rfl⟩;rw [<-hB]at AA⊢
         have qg:Hid (W5.heap.size<=B/\B≠T/\(∀q,ba=some q->q.block≠B)/\(∀s∈(bs.map λb=>(b.da,b.dc,b.cV)),∀p,s.1=some p->p.block≠B)):=by
             rw [hB];exact ⟨HP.o.size,bA HP.o.cw.tape.lt,HP.o.far.1,HP.o.far.2.1⟩
         have HB:=ah AA;replace HP:=ah (HP.o.grow xa);clear sV xa AA hB;refine hK.o _ _ (⟨(HP.o.cw.cg.cell 2).trans rfl,(HP.o.cw.cg.cell 0).trans rfl⟩) (trivial) (λaD ai=> ?_);clear hK Kc;try simp only [j8,j9,j_,List.setIfInBounds_toArray,ke,kf,Act.put]
         refine eI 7 rfl (λKc hK=> ?_);go_simp;refine (H9.o Y5 HP.o.cw.ext HP.o.cw.tape 14 aq aq).mono ?_;rintro e Y6 ⟨da,dc,dm,rfl,uY,yr,hdr,yO,hT,hx⟩
         have J4: ∀p,da=some p->p.block<Y6.heap.size:=λp hp=>by
             obtain ⟨b3,o3,h4,h5⟩:=yr.cell 0 (by rw [uY];have:=HH.o;omega);rw [hp]at h4;cases h4
             exact cY h5
         have vk:Hid (dm.length=hh/\ ∀z∈dm,0<=z/\z<14):=⟨uY,hdr⟩;have hBl:=HB.o.lt
         replace qg:Hid (W5.heap.size<=B/\B≠T/\(∀q,ba=some q->q.block≠B)/\(∀s∈((bs.map λb=>(b.da,b.dc,b.cV))++ [(da,dc,dm)]),∀p,s.1=some p->p.block≠B)):=by
             refine ⟨qg.o.1,qg.o.2.1,qg.o.2.2.1,λs hs p hp=> ?_⟩;rcases List.mem_append.1 hs with q|q
             .exact qg.o.2.2.2 s q p hp
             .rw [List.mem_singleton]at q;subst q
              have:=yO p hp;omega
         replace HB:=ah (HB.o.but hx qg.o.2.1);clear hBl;replace HP:=ah (HP.o.Gp hT hx yr yO J4);clear uY yr hdr yO hT hx J4;refine hK.o _ _ (⟨(HP.o.cw.cg.cell 2).trans rfl,(HP.o.cw.cg.cell 0).trans rfl⟩) (trivial) (λaD ai=> ?_);clear hK Kc;try simp only [j8,j9,j_,List.setIfInBounds_toArray,ke,kf,Act.put]
         refine aJ 8 aD ai ?_ (v:= .agg #[.string (aW 98 k),.slice da hh dc,i64 0]);refine eI 10 rfl (λKc hK=> ?_);have c0:=HB.o.cl 0 (.string {data:= #[]}) rfl;have c1:=HB.o.cl 1 (.slice none 0 0) rfl;have c2:=HB.o.cl 2 (i64 0) rfl;have f0:=HB.o.frozen 0;have f1:=HB.o.frozen 1;have f2:=HB.o.frozen 2;go_simp;replace HP:=ah (HP.o.but ((((aB.refl B Y6).ez (o:=0) (v:= .string (aW 98 k))).ez (o:=1) (v:= .slice da hh dc)).ez (o:=2) (v:=i64 0)) qg.o.1 qg.o.2.2.1 qg.o.2.2.2 (λs hs=>absurd hs aG));replace HB:Hid (aT (((Y6.setCell ⟨B,0,none⟩ (.string (aW 98 k))).setCell ⟨B,1,none⟩ (.slice da hh dc)).setCell ⟨B,2,none⟩ (i64 0)) B 62 [.string (aW 98 k),.slice da hh dc,i64 0]):=((HB.o.set 0 _).set 1 _).set 2 _;clear c0 c1 c2 f0 f1 f2;generalize (((Y6.setCell ⟨B,0,none⟩ (.string (aW 98 k))).setCell ⟨B,1,none⟩ (.slice da hh dc)).setCell ⟨B,2,none⟩ (i64 0))=Y7 at*;refine hK.o _ _ (⟨(HP.o.cw.cg.cell 2).trans rfl,(HP.o.cw.cg.cell 0).trans rfl⟩) (trivial) (λaD ai=> ?_);clear hK Kc;try simp only [j8,j9,j_,List.setIfInBounds_toArray,ke,kf,Act.put]
         refine aI ax ?_ _;clear aD ai;go_wp2
         go_meet
         exact ⟨B,da,dc,dm,rfl,vk.o,HB.o,qg.o,HP.o⟩
       .go_simp
        obtain ⟨Y8,sV,xa,-,AA⟩:=aV Y1 62 [.string {data:= #[]},.slice none 0 0,i64 0];rw [show Y1.alloc (.cells #[.string {data:= #[]},.slice none 0 0,i64 0] 62)=Y8 from sV.symm];obtain ⟨B,hB⟩: ∃B,B=Y1.heap.size:=⟨_,rfl⟩;rw [<-hB]at AA⊢
        have qg:Hid (W5.heap.size<=B/\B≠T/\(∀q,ba=some q->q.block≠B)/\(∀s∈(bs.map λb=>(b.da,b.dc,b.cV)),∀p,s.1=some p->p.block≠B)):=by
             rw [hB];exact ⟨HP.o.size,bA HP.o.cw.tape.lt,HP.o.far.1,HP.o.far.2.1⟩
        have HB:=ah AA;replace HP:=ah (HP.o.grow xa);clear sV xa AA hB;refine hK.o _ _ (⟨(HP.o.cw.cg.cell 2).trans rfl,(HP.o.cw.cg.cell 0).trans rfl⟩) (trivial) (λaD ai=> ?_);clear hK Kc;try simp only [j8,j9,j_,List.setIfInBounds_toArray,ke,kf,Act.put]
        refine eI 3 rfl (λKc hK=> ?_);go_simp;rw [lK.o];refine (FC.o Y8).mono ?_;rintro e w1 ⟨rfl,eL⟩;rw [eL];clear eL;refine hK.o _ _ (⟨(HP.o.cw.cg.cell 2).trans rfl,(HP.o.cw.cg.cell 0).trans rfl⟩) (trivial) (λaD ai=> ?_);clear hK Kc;try simp only [j8,j9,j_,List.setIfInBounds_toArray,ke,kf,Act.put]
        refine eI 7 rfl (λKc hK=> ?_);go_simp;refine (H9.o Y8 HP.o.cw.ext HP.o.cw.tape 14 aq aq).mono ?_;rintro e Y9 ⟨da,dc,dm,rfl,uY,yr,hdr,yO,hT,hx⟩
        have J4: ∀p,da=some p->p.block<Y9.heap.size:=λp hp=>by
             obtain ⟨b3,o3,h4,h5⟩:=yr.cell 0 (by rw [uY];have:=HH.o;omega);rw [hp]at h4;cases h4
             exact cY h5
        have vk:Hid (dm.length=hh/\ ∀z∈dm,0<=z/\z<14):=⟨uY,hdr⟩;have hBl:=HB.o.lt
        replace qg:Hid (W5.heap.size<=B/\B≠T/\(∀q,ba=some q->q.block≠B)/\(∀s∈((bs.map λb=>(b.da,b.dc,b.cV))++ [(da,dc,dm)]),∀p,s.1=some p->p.block≠B)):=by
             refine ⟨qg.o.1,qg.o.2.1,qg.o.2.2.1,λs hs p hp=> ?_⟩;rcases List.mem_append.1 hs with q|q
             .exact qg.o.2.2.2 s q p hp
             .rw [List.mem_singleton]at q;subst q
              have:=yO p hp;omega
        replace HB:=ah (HB.o.but hx qg.o.2.1);clear hBl;replace HP:=ah (HP.o.Gp hT hx yr yO J4);clear uY yr hdr yO hT hx J4;refine hK.o _ _ (⟨(HP.o.cw.cg.cell 2).trans rfl,(HP.o.cw.cg.cell 0).trans rfl⟩) (trivial) (λaD ai=> ?_);clear hK Kc;try simp only [j8,j9,j_,List.setIfInBounds_toArray,ke,kf,Act.put]
        refine aJ 8 aD ai ?_ (v:= .agg #[.string (aW 98 k),.slice da hh dc,i64 0]);refine eI 10 rfl (λKc hK=> ?_);have c0:=HB.o.cl 0 (.string {data:= #[]}) rfl;have c1:=HB.o.cl 1 (.slice none 0 0) rfl;have c2:=HB.o.cl 2 (i64 0) rfl;have f0:=HB.o.frozen 0;have f1:=HB.o.frozen 1;have f2:=HB.o.frozen 2;go_simp;replace HP:=ah (HP.o.but ((((aB.refl B Y9).ez (o:=0) (v:= .string (aW 98 k))).ez (o:=1) (v:= .slice da hh dc)).ez (o:=2) (v:=i64 0)) qg.o.1 qg.o.2.2.1 qg.o.2.2.2 (λs hs=>absurd hs aG));replace HB:Hid (aT (((Y9.setCell ⟨B,0,none⟩ (.string (aW 98 k))).setCell ⟨B,1,none⟩ (.slice da hh dc)).setCell ⟨B,2,none⟩ (i64 0)) B 62 [.string (aW 98 k),.slice da hh dc,i64 0]):=((HB.o.set 0 _).set 1 _).set 2 _;clear c0 c1 c2 f0 f1 f2;generalize (((Y9.setCell ⟨B,0,none⟩ (.string (aW 98 k))).setCell ⟨B,1,none⟩ (.slice da hh dc)).setCell ⟨B,2,none⟩ (i64 0))=Y10 at*;refine hK.o _ _ (⟨(HP.o.cw.cg.cell 2).trans rfl,(HP.o.cw.cg.cell 0).trans rfl⟩) (trivial) (λaD ai=> ?_);clear hK Kc;try simp only [j8,j9,j_,List.setIfInBounds_toArray,ke,kf,Act.put]
        refine aI ax ?_ _;clear aD ai;go_wp2
        go_meet
        exact ⟨B,da,dc,dm,rfl,vk.o,HB.o,qg.o,HP.o⟩
     case rest=>
      obtain ⟨B,da,dc,dm,rfl,Px,hB,hBO,hP⟩:=hcut;generalize wc=WB at*;clear HP;have HP:=ah hP;have HB:=ah hB;have qg:=ah hBO;have vk:=ah Px
      clear hP hB hBO Px;go_wp2_with fail
      refine (gl.o WB 2 (HP.o.cw.ext.but T) HP.o.cw.tape aq aq).mono ?_;rintro e W6 ⟨q,rfl,OJ,hT,hx⟩;replace HP:=ah (HP.o.next hT hx);replace HB:=ah (HB.o.but hx qg.o.2.1);clear hT hx OJ;go_upto_if 47 with fail
      go_cut [] (λwx=> ∃sh:Int,(sh=0\/(100<=sh/\sh<300))/\aT wx B 62 [.string (aW 98 k),.slice da hh dc,i64 sh]/\iQ V T R X W5.heap.size a c l [i64 (hh:Int),.slice rb hh rc,.slice ba bs.length bc,.slice none 0 0,.slice none 0 0,.slice none 0 0,.slice none 0 0,.slice none 0 0] (⟨hh,rb,rc,rs,none,0,[],none,0,[],none,0,[],none,0,[],none,0,[],none,0,[]⟩:ay) 62 3 ba bc (gh bs) ((bs.map λb=>(b.da,b.dc,b.cV))++ [(da,dc,dm)]) [] wx)
      case first=>
       as_aux_lemma=>
        rcases Bool.eq_false_or_eq_true (q==1)with hq|hq
        .go_wp2_with fail
         refine (gl.o W6 200 (HP.o.cw.ext.but T) HP.o.cw.tape aq aq).mono ?_;rintro e W7 ⟨y,rfl,Nw,hT,hx⟩;replace HP:=ah (HP.o.next hT hx);replace HB:=ah (HB.o.but hx qg.o.2.1);clear hT hx;have q1:IntKind.i64.wrap (100+y)=100+y:=dW;have HY:=ah Nw;clear Nw;have c2:=HB.o.cl 2 (i64 0) rfl;have f2:=HB.o.frozen 2;replace HP:=ah (HP.o.but ((aB.refl B W7).ez (o:=2) (v:=i64 (100+y))) qg.o.1 qg.o.2.2.1 qg.o.2.2.2 (λs hs=>absurd hs aG));replace HB:Hid (aT (W7.setCell ⟨B,2,none⟩ (i64 (100+y))) B 62 [.string (aW 98 k),.slice da hh dc,i64 (100+y)]):=HB.o.set 2 _;go_wp2
         go_meet
         exact ⟨100+y,Or.inr (bA HY.o),HB.o,HP.o⟩
        .go_wp2
         go_meet
         exact ⟨0,Or.inl rfl,HB.o,HP.o⟩
      case rest=>
       obtain ⟨sh,U_,hB,hP⟩:=hcut;generalize wc=WC at*;clear HP HB;have HP:=ah hP;have HB:=ah hB;have OX:=ah U_
       clear hP hB U_;have c2:WC.cell? ⟨X,2,none⟩=some (.slice ba bs.length bc):=(HP.o.cw.cg.cell 2).trans rfl;have b0:=HB.o.cl 0 (.string (aW 98 k)) rfl;have b1:=HB.o.cl 1 (.slice da hh dc) rfl;have b2:=HB.o.cl 2 (i64 sh) rfl;have QN:=ah ((Ext.refl WC).alloc (.cells #[.string (aW 98 k),.slice da hh dc,i64 sh] 62))
       have HOW:Hid ((WC.alloc (.cells #[.string (aW 98 k),.slice da hh dc,i64 sh] 62)).ownsRow W5.heap.size 62 3 (.slice ba bs.length bc) bs.length (gh bs).flatten):=by
        have h5:=(HP.o.own.ext QN.o).own;rw [iD]at h5;exact h5
       have hD:=HP.o.size;have TC:bs.length<=4:=qj lK.o jC.o
       go_wp2_with (
        at_builtin
        refine bC _ rfl _ _ 25 rfl W5.heap.size 62 (.agg #[.string ByteArray.empty,.slice none 0 0,i64 0]) 3 48 underlying25 Tryz.info_bus rfl aq (.slice ba bs.length bc) bs.length (gh bs).flatten rfl ?c1 (some ⟨WC.heap.size,0,none⟩) 1 1 [.string (aW 98 k),.slice da hh dc,i64 sh] rfl rfl ?c2 ?c3 ?c4 ?c5 aq ?c6 ?_
        case c1=>exact HOW.o
        case c2=>exact λ_=>⟨_,rfl,dH WC 62 [.string (aW 98 k),.slice da hh dc,i64 sh]⟩
        case c3=>intro u hu;simp only [List.mem_cons,List.not_mem_nil,or_false]at hu;rcases hu with rfl|rfl|rfl<;>rfl
        case c4=>intro e;cases e
        case c5=>omega
        case c6=>simp;omega
        intro v1 w5 ho he hb hz hv;obtain ⟨g2,k2,rfl,c2',Un,vJ⟩:=MR (HP.o.grow QN.o) vk.o.1 ho.o he.o hb.o hz.o hv.o;obtain ⟨SX,SY⟩: ∃SX,SX=bs++ [(⟨aW 98 k,da,dc,dm,sh⟩:dK)]:=⟨_,rfl⟩;rw [<-SY]at vJ⊢;have M7:=ah vJ;have ud:=ah SY;clear HP HB HOW ho he hb hz hv hD TC vJ c2 b0 b1 b2 QN SY)
       go_upto_region 6 with fail
       clear c2' Un;generalize (w5.setCell ⟨X,2,none⟩ (.slice g2 SX.length k2))=W8 at*;have q3:wrap64 (((nb-k:Nat):Int)-1)=((nb-(k+1):Nat):Int):=by unfold wrap64;have:=jC.o;omega
       have acV:Hid (∀j (h:j<SX.length),kH SX[j] j hh):=by
        have h5:=kH.snoc (b:=(⟨aW 98 k,da,dc,dm,sh⟩:dK)) Et.o ⟨by rw [lK.o],vk.o.1,vk.o.2,OX.o⟩;rw [<-ud.o]at h5;exact h5
       have hl2:Hid (SX.length=k+1):=by show _=_;rw [ud.o,List.length_append,lK.o];rfl
       go_wp2
       exact ⟨⟨k+1,SX,g2,k2,ae,hl2.o,acV.o,M7.o,congrArg (Value.int IntKind.i64) q3⟩,Nat.lt_of_le_of_lt (Nat.le_of_eq (congrArg Int.toNat q3)) (by show(((nb-(k+1):Nat):Int)).toNat<(((nb-k:Nat):Int)).toNat;omega)⟩
    .obtain rfl:k=nb:=ae
     clear hlt hk;have HC:Hid (CW V T R X a c l [i64 (hh:Int),.slice rb hh rc,.slice ba bs.length bc,.slice none 0 0,.slice none 0 0,.slice none 0 0,.slice none 0 0,.slice none 0 0] (⟨hh,rb,rc,rs,ba,bc,bs,none,0,[],none,0,[],none,0,[],none,0,[],none,0,[]⟩:ay) wr):=MS HP.o Et.o (qj lK.o jC.o);clear HP;rw [lK.o]at HC;rw [Nat.sub_self k,show((0:Nat):Int)=0 from rfl];go_wp2
     go_meet
     exact ⟨bs,ba,bc,lK.o,Et.o,HC.o⟩
 case rest=>
  obtain ⟨bs,ba,bc,hbl,X3,hC⟩:=hcut;generalize wc=WL at*;clear HU;have HC:=ah hC;have Et:=ah X3;have lK:=ah hbl
  clear hC X3 hbl;go_step
  exact M9 V T R X a c l hh nb rc bc rb ba rs bs HL oq HH Cr jC Et lK WL HC
