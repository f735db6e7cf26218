/- Texts of the proof. -/
import Derived.Test.YtkpngkdgphojlaaGreatCd7
set_option linter.all false
set_option maxHeartbeats 2000000
set_option maxRecDepth 100000
namespace Go.Proofs.YtkpngkdgphojlaaGreat
open Go.Proofs.Tryz
open Go.RowKit
def St.lv (c:ai) (x:aF) (prev:List ByteArray) (i:Int) (s:St):St:=((((((((((((((((((((((((s.at 3 i).name x.name prev).bus c 1 x.bus).within 2 x.min 0 1048576).within 3 x.max x.min 1048576).segments x).within 5 x.eu 0 1048576).within 6 x.ez 0 1048576).within 7 x.cD 0 1048576).within 8 x.bW x.min x.max).within 9 x.cE x.min x.max).within 10 x.eE 0 24).within 11 x.cF 0 24).within 12 x.startTime 0 24).within 13 x.dr 0 1048576).within 14 x.cG 0 1048576).within 15 x.cJ 0 24).within 16 x.aV 0 1048576).within 17 x.bg 0 1048576).away c 18 x.away).need ((x.state==0)||(x.state==1)||(x.state==2)) 19 12).need ((x.state !=1)||(x.startTime !=0)) 19 16).within 20 x.hours 1 48).need ((x.state !=1)||decide (x.hours≤x.startTime)) 20 3).within 21 x.output (if x.state=2 then x.min else 0) (if x.state=2 then x.max else 0)
abbrev St.tX (c:ai) (s:St) (n:Nat):St:=St.upTo (St.lv c) aF.name c.au s n
def St.au (s:St) (c:ai):St:=St.tX c s c.au.length
theorem Lf (w0 V:World) (K:Nat) (c:ai) (s:St) (hK:w0.heap.size≤K) (hV:Ext w0 V) (hc:aS w0 c) (hn:c.au.length≤1000000) (h:gY V K c s):
 Calls prog 81 #[.pointer (some ⟨K,0,none⟩)] V fun e' w'=>kW V K c (s.au c) e' w':=by
 have hle:=hc.au.le;have dy:=hc.au.cap
 rw [List.length_map]at hle;have Ho:=ae (show∀args w,(callFunc 141 args).run prog w= .ok (.enter 141 args) w from enters_of func141 (by kernel_rfl) rfl);have HV:=ae hV;have et:=ae hc;have cX:=ae hK;have qY:=ae h.lt
 unfold St.au;clear hc hV hK;go_enter func81,ntmps81
 go_upto_region 1 with fail
 generalize hW:World.alloc _ _=W;obtain ⟨B,hB,x0,A⟩:=dv hW;rw [←hB];have fP:B≠K:=by have:=qY.o;omega
 have F:=fun Y (e:ar K W Y)=>(A.dA e fP).cs;simp only [Cs,aF.cells,Nat.zero_add,Nat.add_zero,Nat.reduceAdd,and_true]at F;have HK:=ae (h.ext x0);have C:=dO HK.o;have X:=ar.refl K W;have HX:=ae (x0.but K);have HE:=ae (HV.o.trans x0)
 clear hW A x0 hB h HV;go_wp2_with fail
 clear C;go_loopw [10] (fun ii wr=> ∃i:Nat,i≤c.au.length∧gY wr K c (St.tX c s i)∧ar K W wr∧ii= .int .i64 i) (fun ii _=>c.au.length-(intOf ii).toNat)
 case atStart=>exact ⟨0,Nat.zero_le _,HK.o,X,rfl⟩
 case round=>
  clear X HK;obtain ⟨i,hi,hk,X,rfl⟩:=hrel;by_cases hlt:i<c.au.length
  ·have hE:=X.ext HE.o cX.o
   obtain ⟨b,o,ha,D⟩:=(et.o.au.ext hE).adds i (by simpa using hlt);rw [List.getElem_map]at D;have iz:=ae (et.o.unit c.au[i] (List.getElem_mem hlt));have qZ:=ae (St.ld (St.lv c) aF.name c.au s i hlt);obtain ⟨prev,hp,xy,vZ⟩:=Aq aF.name c.au i hlt;rw [←hp]at qZ;have zP:=ae vZ;have HK:=ae hk
   generalize c.au[i]=x at D iz qZ;have f_:(0:Int)≤(i:Int):=by omega
   have fU:(i:Int)<(c.au.length:Int):=by omega
   have HD:=ae D;clear D;clear hp vZ hk;rw [ha];go_upto_region 4 with(first|(refine bG rfl 67 _ rfl ⟨b,o+i*22,none⟩ rfl x.cells _ HD.o underlying67 rfl (by kernel_rfl) ?_)|(refine dw rfl 67 _ _ rfl _ x.cells rfl rfl (by kernel_rfl) rfl rfl ?_))
   try simp only [Act.put]
   generalize hW1:World.alloc _ _=W1;obtain ⟨E,lh,x1,A⟩:=dv hW1;rw [←lh];have lg:E≠K:=by have:=HK.o.lt;omega
   replace F:=fun Y (e:ar K W1 Y)=>And.intro (F Y ((X.trans (x1.but K)).trans e)) (A.dA e lg).cs;simp only [Cs,aF.cells,Nat.zero_add,Nat.add_zero,Nat.reduceAdd,and_true]at F;have fJ:=ae (X.trans (x1.but K));have kX:=ae (hE.trans x1)
   replace X:=ar.refl K W1;replace HK:=ae (HK.o.ext x1);have P1:=Ar;have mY:=ae A;clear A hW1 x1 lh hE ha HD;go_wp2_with (first|((first|(go_at_call 131;refine (Aj _ K c _ _ _ HK.o).mono ?_)|(go_at_call 135;refine (qV _ K c _ _ iz.o.1 prev 141 B (fun h=>by rw [xy.o];exact St.uE _ _ _ h) (by rw [xy.o];omega) Ho.o (fun V' s' j hj mH Hp=>by obtain ⟨hj',ej⟩:=zP.o j hj;rw [ej];exact Hh w0 V' K B c s' j cX.o (mH.ext (X.ext kX.o cX.o) cX.o) et.o Hp (F V' (X.trans mH)).1 hj') HK.o).mono ?_)|(go_at_call 138;refine (Ec _ K c _ _ _ HK.o).mono ?_)|(go_at_call 132;refine (gZ _ K c _ _ _ _ _ HK.o).mono ?_)|(go_at_call 134;refine (eF _ K c _ _ _ _ HK.o).mono ?_)|(go_at_call 142;refine (Nn w0 _ K c _ x cX.o (X.ext kX.o cX.o) iz.o.2.2.1 iz.o.2.2.2.1 HK.o).mono ?_)|(go_at_call 140;refine (Ha w0 _ K c _ _ _ _ _ cX.o (X.ext kX.o cX.o) iz.o.2.1 HK.o).mono ?_));rintro e w ⟨rfl,hk,hx⟩;replace X:=X.trans hx;replace HK:=ae hk;clear hx hk)|(refine Qy ?_)|(refine bG rfl 67 _ rfl ⟨E,0,none⟩ rfl x.cells _ (mY.o.dA X lg).adds underlying67 rfl (by kernel_rfl) ?_))
   all_goals exact ⟨⟨i+1,by omega,by rw [show St.tX c s (i+1)=_ from qZ.o];(rename_i h;first|(have q:=eq_of_beq h;simpa [St.lv,q]using HK.o)|(have q: ¬x.state=2:=(by simpa using h);simpa [St.lv,q]using HK.o)),fJ.o.trans X,by go_num⟩,by simp only [intOf];omega⟩
  ·obtain rfl:i=c.au.length:=by omega
   go_wp2_with fail
   exact bodyPost_end (v:= .tuple #[]) (by simp [results,results81,go_sem]) rfl ⟨rfl,hk,HX.o.trans X⟩
end Go.Proofs.YtkpngkdgphojlaaGreat
