/- Texts of the proof. -/
import Derived.Test.YtkpngkdgphojlaaGreatCf6
set_option linter.all false
set_option maxHeartbeats 2000000
set_option maxRecDepth 100000
namespace Go.Proofs.YtkpngkdgphojlaaGreat
open Go.Proofs.Tryz
open Go.RowKit
def St.mJ (c:ai) (x:aK) (prev:List ByteArray) (i:Int) (s:St):St:=((((((((((((((((((((((((s.at 3 i).name x.name prev).cS c 1 x.cS).within 2 x.min 0 1048576).within 3 x.max x.min 1048576).segments x).within 5 x.fu 0 1048576).within 6 x.fw 0 1048576).within 7 x.dv 0 1048576).within 8 x.cL x.min x.max).within 9 x.dx x.min x.max).within 10 x.fz 0 24).within 11 x.dy 0 24).within 12 x.startTime 0 24).within 13 x.dS 0 1048576).within 14 x.dz 0 1048576).within 15 x.dA 0 24).within 16 x.aA 0 1048576).within 17 x.bK 0 1048576).away c 18 x.away).need ((x.state==0)||(x.state==1)||(x.state==2)) 19 12).need ((x.state !=1)||(x.startTime !=0)) 19 16).within 20 x.hours 1 48).need ((x.state !=1)||decide (x.hours≤x.startTime)) 20 3).within 21 x.output (if x.state=2 then x.min else 0) (if x.state=2 then x.max else 0)
abbrev St.uK (c:ai) (s:St) (n:Nat):St:=St.upTo (St.mJ c) aK.name c.aq s n
def St.aq (s:St) (c:ai):St:=St.uK c s c.aq.length
theorem LG (w0 V:World) (K:Nat) (c:ai) (s:St) (hK:w0.heap.size≤K) (hV:Ext w0 V) (hc:a_ w0 c) (hn:c.aq.length≤1000000) (h:iN V K c s):
 Calls prog 81 #[.pointer (some ⟨K,0,none⟩)] V fun e' w'=>mq V K c (s.aq c) e' w':=by
 have hle:=hc.aq.le;have dQ:=hc.aq.cap
 rw [List.length_map]at hle;have IA:=ae (show∀args w,(callFunc 141 args).run prog w= .ok (.enter 141 args) w from enters_of func141 (by kernel_rfl) rfl);have HV:=ae hV;have f_:=ae hc;have df:=ae hK;have qx:=ae h.lt
 unfold St.aq;clear hc hV hK;go_enter func81,ntmps81
 go_upto_region 1 with fail
 generalize hW:World.alloc _ _=W;obtain ⟨B,hB,x0,A⟩:=bX hW;rw [←hB];have gQ:B≠K:=by have:=qx.o;omega
 have F:=fun Y (e:ar K W Y)=>(A.dC e gQ).cs;simp only [Cs,aK.cells,Nat.zero_add,Nat.add_zero,Nat.reduceAdd,and_true]at F;have HK:=ae (h.ext x0);have C:=eC HK.o;have X:=ar.refl K W;have HX:=ae (x0.but K);have HE:=ae (HV.o.trans x0)
 clear hW A x0 hB h HV;go_wp2_with fail
 clear C;go_loopw [10] (fun ii wr=> ∃i:Nat,i≤c.aq.length∧iN wr K c (St.uK c s i)∧ar K W wr∧ii= .int .i64 i) (fun ii _=>c.aq.length-(intOf ii).toNat)
 case atStart=>exact ⟨0,Nat.zero_le _,HK.o,X,rfl⟩
 case round=>
  clear X HK;obtain ⟨i,hi,hk,X,rfl⟩:=hrel;by_cases hlt:i<c.aq.length
  ·have hE:=X.ext HE.o df.o
   obtain ⟨b,o,ha,D⟩:=(f_.o.aq.ext hE).adds i (by simpa using hlt);rw [List.getElem_map]at D;have jf:=ae (f_.o.unit c.aq[i] (List.getElem_mem hlt));have sG:=ae (St.mB (St.mJ c) aK.name c.aq s i hlt);obtain ⟨prev,hp,yb,wL⟩:=A5 aK.name c.aq i hlt;rw [←hp]at sG;have Ar:=ae wL;have HK:=ae hk
   generalize c.aq[i]=x at D jf sG;have jS:(0:Int)≤(i:Int):=by omega
   have jI:(i:Int)<(c.aq.length:Int):=by omega
   have HD:=ae D;clear D;clear hp wL hk;rw [ha];go_upto_region 4 with(first|(refine aT rfl 67 _ rfl ⟨b,o+i*22,none⟩ rfl x.cells _ HD.o underlying67 rfl (by kernel_rfl) ?_)|(refine dR rfl 67 _ _ rfl _ x.cells rfl rfl (by kernel_rfl) rfl rfl ?_))
   try simp only [Act.put]
   generalize hW1:World.alloc _ _=W1;obtain ⟨E,nP,x1,A⟩:=bX hW1;rw [←nP];have mC:E≠K:=by have:=HK.o.lt;omega
   replace F:=fun Y (e:ar K W1 Y)=>And.intro (F Y ((X.trans (x1.but K)).trans e)) (A.dC e mC).cs;simp only [Cs,aK.cells,Nat.zero_add,Nat.add_zero,Nat.reduceAdd,and_true]at F;have eE:=ae (X.trans (x1.but K));have mr:=ae (hE.trans x1)
   replace X:=ar.refl K W1;replace HK:=ae (HK.o.ext x1);have P1:=A7;have mi:=ae A;clear A hW1 x1 nP hE ha HD;go_wp2_with (first|((first|(go_at_call 131;refine (AQ _ K c _ _ _ HK.o).mono ?_)|(go_at_call 135;refine (sB _ K c _ _ jf.o.1 prev 141 B (fun h=>by rw [yb.o];exact St.vq _ _ _ h) (by rw [yb.o];omega) IA.o (fun V' s' j hj pU EM=>by obtain ⟨hj',ej⟩:=Ar.o j hj;rw [ej];exact Iq w0 V' K B c s' j df.o (pU.ext (X.ext mr.o df.o) df.o) f_.o EM (F V' (X.trans pU)).1 hj') HK.o).mono ?_)|(go_at_call 138;refine (EK _ K c _ _ _ HK.o).mono ?_)|(go_at_call 132;refine (iO _ K c _ _ _ _ _ HK.o).mono ?_)|(go_at_call 134;refine (eT _ K c _ _ _ _ HK.o).mono ?_)|(go_at_call 142;refine (N6 w0 _ K c _ x df.o (X.ext mr.o df.o) jf.o.2.2.1 jf.o.2.2.2.1 HK.o).mono ?_)|(go_at_call 140;refine (Ii w0 _ K c _ _ _ _ _ df.o (X.ext mr.o df.o) jf.o.2.1 HK.o).mono ?_));rintro e w ⟨rfl,hk,hx⟩;replace X:=X.trans hx;replace HK:=ae hk;clear hx hk)|(refine Q_ ?_)|(refine aT rfl 67 _ rfl ⟨E,0,none⟩ rfl x.cells _ (mi.o.dC X mC).adds underlying67 rfl (by kernel_rfl) ?_))
   all_goals exact ⟨⟨i+1,by omega,by rw [show St.uK c s (i+1)=_ from sG.o];(rename_i h;first|(have q:=eq_of_beq h;simpa [St.mJ,q]using HK.o)|(have q: ¬x.state=2:=(by simpa using h);simpa [St.mJ,q]using HK.o)),eE.o.trans X,by go_num⟩,by simp only [intOf];omega⟩
  ·obtain rfl:i=c.aq.length:=by omega
   go_wp2_with fail
   exact bodyPost_end (v:= .tuple #[]) (by simp [results,results81,go_sem]) rfl ⟨rfl,hk,HX.o.trans X⟩
end Go.Proofs.YtkpngkdgphojlaaGreat
