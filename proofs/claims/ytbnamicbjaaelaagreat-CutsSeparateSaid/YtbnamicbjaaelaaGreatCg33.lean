/- Texts of the proof. -/
import Derived.Test.YtbnamicbjaaelaaGreatCg13
set_option linter.all false
set_option maxHeartbeats 2000000
set_option maxRecDepth 100000
namespace Go.Proofs.YtbnamicbjaaelaaGreat
open Go.Proofs.Tryz
open Go.RowKit
def St.mW (c:ay) (x:aP) (prev:List ByteArray) (i:Int) (s:St):St:=((((((((((((((((((((((((s.at 3 i).name x.name prev).fE c 1 x.fE).within 2 x.min 0 1048576).within 3 x.max x.min 1048576).segments x).within 5 x.fF 0 1048576).within 6 x.fG 0 1048576).within 7 x.dA 0 1048576).within 8 x.cQ x.min x.max).within 9 x.dB x.min x.max).within 10 x.eK 0 24).within 11 x.dC 0 24).within 12 x.startTime 0 24).within 13 x.dX 0 1048576).within 14 x.dD 0 1048576).within 15 x.dE 0 24).within 16 x.aX 0 1048576).within 17 x.bR 0 1048576).away c 18 x.away).need ((x.state==0)||(x.state==1)||(x.state==2)) 19 12).need ((x.state !=1)||(x.startTime !=0)) 19 16).within 20 x.hours 1 48).need ((x.state !=1)||decide (x.hours<=x.startTime)) 20 3).within 21 x.output (if x.state=2 then x.min else 0) (if x.state=2 then x.max else 0)
abbrev St.wA (c:ay) (s:St) (n:Nat):St:=St.upTo (St.mW c) aP.name c.aA s n
def St.aA (s:St) (c:ay):St:=St.wA c s c.aA.length
theorem O0 (w0 V:World) (K:Nat) (c:ay) (s:St) (hK:w0.heap.size<=K) (hV:Ext w0 V) (hc:bm w0 c) (hn:c.aA.length<=1000000) (h:iW V K c s):
 Calls prog 70 #[.pointer (some ⟨K,0,none⟩)] V λe' w'=>mI V K c (s.aA c) e' w':=by
 have hle:=hc.aA.le;have dS:=hc.aA.cap
 rw [List.length_map]at hle;have I8:=ah (show∀args w,(callFunc 121 args).run prog w= .ok (.enter 121 args) w from enters_of func121 ax rfl);have HV:=ah hV;have eT:=ah hc;have dN:=ah hK;have t_:=ah h.lt
 unfold St.aA;clear hc hV hK;go_enter func70,ntmps70
 go_upto_region 1 with fail
 generalize hW:World.alloc _ _=W;obtain ⟨B,hB,x0,A⟩:=bV hW;rw [<-hB];have gZ:B≠K:=bA t_.o;have F:=λY (e:aB K W Y)=>(A.eH e gZ).cs;simp only [Cs,aP.cells,Nat.zero_add,Nat.add_zero,Nat.reduceAdd,and_true]at F;have HK:=ah (h.ext x0);have C:=eM HK.o;have X:=aB.refl K W;have HX:=ah (x0.but K);have HE:=ah (HV.o.trans x0)
 clear hW A x0 hB h HV;go_wp2_with fail
 clear C;go_loopw [10] (λii wr=> ∃i:Nat,i<=c.aA.length/\iW wr K c (St.wA c s i)/\aB K W wr/\ii= .int .i64 i) (λii _=>c.aA.length-(intOf ii).toNat)
 case atStart=>exact ⟨0,aZ,HK.o,X,rfl⟩
 case round=>
  clear X HK;obtain ⟨i,hi,hk,X,rfl⟩:=hrel;by_cases hlt:i<c.aA.length
  .have hE:=X.ext HE.o dN.o
   obtain ⟨b,o,ha,D⟩:=(eT.o.aA.ext hE).adds i (by simpa using hlt);rw [List.getElem_map]at D;have jq:=ah (eT.o.unit c.aA[i] (List.getElem_mem hlt));have se:=ah (St.mM (St.mW c) aP.name c.aA s i hlt);obtain ⟨prev,hp,v_,yv⟩:=Dp aP.name c.aA i hlt;rw [<-hp]at se;have Cl:=ah yv;have HK:=ah hk
   generalize c.aA[i]=x at D jq se;have iM:(0:Int)<=(i:Int):=ae;have iK:(i:Int)<(c.aA.length:Int):=ae;have HD:=ah D;clear D;clear hp yv hk;rw [ha];go_upto_region 4 with(first|(refine br rfl 55 _ rfl ⟨b,o+i*22,none⟩ rfl x.cells _ HD.o underlying55 rfl ax ?_)|(refine bP rfl 55 _ _ rfl _ x.cells rfl rfl ax rfl rfl ?_))
   try simp only [Act.put]
   generalize hW1:World.alloc _ _=W1;obtain ⟨E,mO,x1,A⟩:=bV hW1;rw [<-mO];have mN:E≠K:=bA HK.o.lt;replace F:=λY (e:aB K W1 Y)=>And.intro (F Y ((X.trans (x1.but K)).trans e)) (A.eH e mN).cs;simp only [Cs,aP.cells,Nat.zero_add,Nat.add_zero,Nat.reduceAdd,and_true]at F;have eC:=ah (X.trans (x1.but K));have jB:=ah (hE.trans x1)
   replace X:=aB.refl K W1;replace HK:=ah (HK.o.ext x1);have P1:=Dr;have mP:=ah A;clear A hW1 x1 mO hE ha HD;go_wp2_with (first|((first|(go_at_call 111;refine (Dh _ K c _ _ _ HK.o).mono ?_)|(go_at_call 115;refine (tX _ K c _ _ jq.o.1 prev 121 B (λh=>by rw [v_.o];exact St.xt _ _ _ h) (by rw [v_.o];omega) I8.o (λV' s' j hj nY LC=>by obtain ⟨hj',ej⟩:=Cl.o j hj;rw [ej];exact Lt w0 V' K B c s' j dN.o (nY.ext (X.ext jB.o dN.o) dN.o) eT.o LC (F V' (X.trans nY)).1 hj') HK.o).mono ?_)|(go_at_call 118;refine (G_ _ K c _ _ _ HK.o).mono ?_)|(go_at_call 112;refine (iX _ K c _ _ _ _ _ HK.o).mono ?_)|(go_at_call 114;refine (fH _ K c _ _ _ _ HK.o).mono ?_)|(go_at_call 122;refine (RA w0 _ K c _ x dN.o (X.ext jB.o dN.o) jq.o.2.2.1 jq.o.2.2.2.1 HK.o).mono ?_)|(go_at_call 120;refine (Ll w0 _ K c _ _ _ _ _ dN.o (X.ext jB.o dN.o) jq.o.2.1 HK.o).mono ?_));rintro e w ⟨rfl,hk,hx⟩;replace X:=X.trans hx;replace HK:=ah hk;clear hx hk)|(refine U6 ?_)|(refine br rfl 55 _ rfl ⟨E,0,none⟩ rfl x.cells _ (mP.o.eH X mN).adds underlying55 rfl ax ?_))
   all_goals exact ⟨⟨i+1,ae,by rw [show St.wA c s (i+1)=_ from se.o];(rename_i h;first|(have q:=eq_of_beq h;simpa [St.mW,q]using HK.o)|(have q: ¬x.state=2:=(by simpa using h);simpa [St.mW,q]using HK.o)),eC.o.trans X,bf⟩,a_⟩
  .obtain rfl:i=c.aA.length:=ae
   go_wp2
   exact bodyPost_end (v:= .tuple #[]) ax rfl ⟨rfl,hk,HX.o.trans X⟩
