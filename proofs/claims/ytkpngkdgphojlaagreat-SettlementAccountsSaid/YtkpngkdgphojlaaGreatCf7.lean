/- Texts of the proof. -/
import Derived.Test.YtkpngkdgphojlaaGreatCf4
import Derived.Test.YtkpngkdgphojlaaGreatCf6
set_option linter.all false
set_option maxHeartbeats 4000000
set_option maxRecDepth 100000
namespace Go.Proofs.YtkpngkdgphojlaaGreat
open Go.Proofs.Tryz
open Go.RowKit
section
variable{P:Program} (w:World)
theorem qM {ops:Array Oper} {rest:List Oper} {o:Oper} {a:Act} {Q:Exit→Act→World→Prop} (hgd:o.guard=none) (s x:Operand) (t:TypeId)
 (ho:o.op= .call {callee:= .builtin .append,args:= #[s,x],argTypes:= #[t,t]})
 (base:Nat) (e:TypeId) (z:Value) (size bytes:Nat) (ht:P.underlying t=some (.slice e)) (iL:(P.info? e).map (fun i=>(i.zero,i.size,i.bytes))=some (some z,size,bytes)) (hzs:z.cells.size=size) (hsz:0<size)
 (v:Value) (n:Nat) (xs:List Value) (hs:a.eval s=v) (hown:w.ownsRow base e size v n xs)
 (xa:Option Addr) (m c:Nat) (news:List Value) (hx:a.eval x= .slice xa m c) (hl:news.length=m*size) (hnews:0<m→ ∃ad,xa=some ad∧ ∀j u,news[j]?=some u→w.cell? (ad.add j)=some u) (h1: ∀u∈news,u.oneCell'=true)
 (hnil:xa=none→m=0∧c=0)
 (ue:n+m≤9223372036854775807) (hb:(n+m)*bytes≤140737488355328) (hbase:base≤w.heap.size)
 (h: ∀v' w',Hid (w'.ownsRow base e size v' (n+m) (xs++news))→Hid (∀a0,Ext a0 w→a0.heap.size≤base→Ext a0 w')→Hid (∀k,k<w.heap.size→some k≠v.ownBlock→w'.heap[k]?=w.heap[k]?)→Hid (w.heap.size≤w'.heap.size)→Hid (v'.ownBlock=v.ownBlock∨ ∃g,v'.ownBlock=some g∧w.heap.size≤g)→wpList P ops Q rest (a.put o.dst v') w'):wpList P ops Q (o::rest) a w:=by
 obtain ⟨i,hi,hz,hsize,hby⟩:=info_parts iL;have hlt:=hown.lt;have ue:n+m≤maxLen:=by unfold maxLen;omega
 cases xa with
 |none=>
  obtain ⟨rfl,rfl⟩:=hnil rfl;have hn:news= []:=List.eq_nil_of_length_eq_zero (by simpa using hl);subst hn;refine wpList_append_own_none hgd s x t ho base e i size ht hi v n xs hs hown hx ?_;exact h v w (ae (by simpa using hown)) (fun _ h _=>h) (fun _ _ _=>rfl) (Nat.le_refl _) (.inl rfl)
 |some ad=>
  have mU: ∀j u,news[j]?=some u→w.cell? (ad.add j)=some u:=by
   intro j u hu;by_cases hm:0<m
   ·obtain ⟨Wa,e',hh⟩:=hnews hm;cases e';exact hh j u hu
   ·have:news= []:=List.eq_nil_of_length_eq_zero (by rw [hl];have:m=0:=by omega
                                                     simp [this])
    rw [this]at hu;simp at hu
  refine wpList_plain hgd fun K hK=> ?_;obtain ⟨v',w',hr,h2,h3,h4,h5⟩:=iM (P:=P) w base t o.type e i z size bytes ht hi hz hsize hby hzs hsz v n xs hown ad m c news hl mU h1 ue hb hbase;unfold Oper.wp execOp;simp only [ho,resolve,invoke,builtin,Sem.run_bind,Sem.run_pure,Result.andThen_ok,List.map_toArray,List.map_cons,List.map_nil,hs,hx,hr];refine hK _ _ (h v' w' h2 (fun a0 ha hb0=>⟨ha.below.trans ⟨h3.os,h3.tape,h3.output,h3.size,fun k hk=>h3.block k (by have:=ha.size;omega) (fun e'=>by have:=hlt k e'.symm;omega)⟩,Nat.le_trans ha.drawn h4⟩) h3.block h3.size h5)
end
theorem aI.ov {w:World} {a:Option Addr} {c:Nat} {l:List Int} (h:bH w 1 a c (l.map fun x=> [i64 x])) (hl:eI l):aI w a c l:=
 ⟨by have:=h.le;rw [List.length_map]at this;exact this,h.cap,fun i hi=>by
   obtain ⟨b,o,ha,hc⟩:=h.cell i (by simpa using hi);refine ⟨b,o,ha,?_⟩;have:=hc 0 (by simp);simpa using this,fun i hi=>by
   have:=hl l[i] (List.getElem_mem hi);unfold bB at this;omega⟩
theorem aI.two (W:World) (x y:Int) (hx:bB x) (hy:bB y):aI (W.alloc (.cells #[i64 x,i64 y] 3)) (some ⟨W.heap.size,0,none⟩) 2 [x,y]:=
 ⟨by simp,by omega,fun i hi=>⟨W.heap.size,0,rfl,by
     have h0:i=0∨i=1:=by simp at hi;omega
     rcases h0 with h0|h0<;>subst h0
     ·exact (aQ.alloc W 3 [i64 x,i64 y]).cell 0
     ·exact (aQ.alloc W 3 [i64 x,i64 y]).cell 1⟩,fun i hi=>by
     have h0:i=0∨i=1:=by simp at hi;omega
     unfold bB at hx hy;rcases h0 with h0|h0<;>subst h0<;>simp<;>omega⟩
theorem Wo (W:World) (x y lo hi:Int) (hx:bB x) (hy:bB y):
 Calls prog 56 #[i64 lo,i64 hi,.slice (some ⟨W.heap.size,0,none⟩) 2 2] (W.alloc (.cells #[i64 x,i64 y] 3)) fun e w'=>e= .returned (.bool (bP lo hi [x,y]))∧w'=W.alloc (.cells #[i64 x,i64 y] 3):=
 eY _ lo hi _ 2 [x,y] (aI.two W x y hx hy)
theorem yg {n:Nat} (h:n≤9223372036854775807):bB (n:Int):=by unfold bB;omega
def wU (m:bL):Bool:=bP 0 1048576 [m.up,m.down]
theorem Dk (l:List bL) (i:Nat) (h:i<l.length):(l.take (i+1)).all wU=((l.take i).all wU&&wU l[i]):=by
 rw [List.take_succ_eq_append_getElem h,List.all_append];simp
theorem aI.dC {w w':World} {a:Option Addr} {c K:Nat} {l:List Int} (h:aI w a c l) (x:ar K w w') (hb: ∀p,a=some p→p.block≠K):aI w' a c l:=
 ⟨h.le,h.cap,fun i hi=>by
   obtain ⟨b,o,ha,hc⟩:=h.cell i hi;exact ⟨b,o,ha,cK hc x (show b≠K from hb _ ha)⟩,h.NV⟩
def oZ (c:ai) (x:aY) (prev:List ByteArray) (e:Int):Int:=nd (nd (nd (nd (nd (nd (nd (nd (iF e x.name prev) (bP 1 2 [(x.lines.length:Int)]) 4) (bP 0 ((c.lines.length:Int)-1) x.lines) 12) (iP x.lines) 11) (x.bI||decide (x.moves.length=0)) 16) (decide ((x.moves.length:Int)≤16)) 8) (bP 0 ((c.aq.length:Int)-1) (x.moves.map bL.unit)) 12) (iP (x.moves.map bL.unit)) 11) (x.moves.all wU) 3
theorem Dl (w0 V:World) (K:Nat) (c:ai) (e:Int) (i:Nat) (hi:i<c.outs.length) (hK:w0.heap.size≤K) (hV:Ext w0 V) (hc:a_ w0 c) (hn:c.outs.length≤1000000) (MT: ∀o∈c.outs,o.moves.length≤5900000000000) (h:FE V K e):
 Calls prog 61 #[.pointer (some ⟨K,0,none⟩),.agg (C8 c),i64 i] V fun e' w'=>sy V K (oZ c c.outs[i] ((c.outs.take i).map aY.name) e) e' w':=by
 try unfold C8
 have KF:=h.lt;have hr:=hc.outs;have hle:=hr.le;have dQ:=hr.cap
 rw [List.length_map]at hle;obtain ⟨b,o,ha,c0,c1,c2,c3⟩:=(hr.ext hV).outs i hi;have jK:=hc.o c.outs[i] (List.getElem_mem hi);have Wq:=ae (qG c);obtain ⟨prev,Dc⟩: ∃prev,prev=(c.outs.take i).map aY.name:=⟨_,rfl⟩;obtain ⟨x,uj⟩: ∃x,x=c.outs[i]:=⟨_,rfl⟩;have l_:Hid (∃h:i<(c.outs.map aY.name).length,(c.outs.map aY.name)[i]=x.name∧(c.outs.map aY.name).take i=prev):=⟨by simpa using hi,by subst uj;simp,by subst Dc;rw [List.map_take]⟩;have vr:Hid ((c.outs.map aY.name).length≤1000000):=by(show _≤_;rw [List.length_map];exact hn)
 rw [←Dc,←uj];rw [←uj]at c0 c1 c2 c3 jK;clear Dc hn;have lD:=ae jK.2.1;have UN:=ae jK.2.2.1;have Ws:=ae jK.2.2.2
 have ID:x.lines.length≤9223372036854775807:=Nat.le_trans jK.2.1.le jK.2.1.cap;have Rc:=ae (yg ID);have Re:=ae ID;have pJ:c.lines.length≤9223372036854775807:=by have:=hc.lines.le;have:=hc.lines.cap;rw [List.length_map]at*;omega
 have A9:c.aq.length≤9223372036854775807:=by have:=hc.aq.le;have:=hc.aq.cap;rw [List.length_map]at*;omega
 have HWL:Hid (IntKind.i64.wrap ((c.lines.length:Int)-1)=(c.lines.length:Int)-1):=by show _=_;rw [IntKind.wrap_i64];omega
 have HWU:Hid (IntKind.i64.wrap ((c.aq.length:Int)-1)=(c.aq.length:Int)-1):=by show _=_;rw [IntKind.wrap_i64];omega
 have HL1:=ae pJ;have MU:=ae A9
 have HMS:Hid (x.moves.length≤5900000000000):=by show _≤_;rw [uj];exact MT _ (List.getElem_mem hi)
 have UO:Hid (x.moves.length≤9223372036854775807):=Nat.le_trans HMS.o (by decide)
 have HMU:Hid (eI (x.moves.map bL.unit)):=fun z hz=>by
  obtain ⟨m,hm,rfl⟩:=List.mem_map.1 hz;exact jK.2.2.2 m hm m.unit (by simp)
 clear ID pJ A9 MT uj;have Wu:=ae jK.1;have HV:=ae hV;have f_:=ae hc;have HH:=ae h;have df:=ae hK
 have jS:(0:Int)≤(i:Int):=by omega
 have jI:(i:Int)<(c.outs.length:Int):=by omega
 unfold oZ;have uF:=ae ha;clear hr h hc hV hK jK ha;go_enter func61,ntmps61
 go_upto_region 1 with fail
 obtain ⟨W0,hW,x0,Z0,A0⟩:=aX V 32 c.cells;rw [show V.alloc (.cells (C8 c) 32)=W0 from hW.symm];clear hW;obtain ⟨B,hB⟩: ∃B,B=V.heap.size:=⟨_,rfl⟩;rw [←hB]at A0⊢;have gQ:B≠K:=by omega
 obtain ⟨-,-,k2,k3,k4,k5,k6,k7⟩:=ai.at A0;rw [uF.o]at k7;have c0:=ak x0 c0;have c1:=ak x0 c1;have c2:=ak x0 c2;have c3:=ak x0 c3;have Ax:=ae A0;have X0:=ae x0;have EN:=ae hB
 clear A0 Z0 x0 hB k2 k3 k4 k5 k6;go_upto_region 2 with fail
 obtain ⟨W1,hW1,x1,Z1,A1⟩:=aX W0 87 x.cells;rw [show W0.alloc (.cells #[.string x.name,.slice x.la x.lines.length x.lc,.bool x.bI,.slice x.ma x.moves.length x.mc] 87)=W1 from hW1.symm];clear hW1 k7 c0 c1 c2 c3;obtain ⟨X,hX⟩: ∃X,X=W0.heap.size:=⟨_,rfl⟩;rw [←hX]at A1⊢;have EO:X≠K:=by have:=X0.o.size;omega
 have HF:=ae ((HH.o.ext X0.o).ext x1);have HX:=ae A1;have HB:=ae (Ax.o.ext x1);have kV:Hid (ar K V W1):=(X0.o.trans x1).but K;have gV:Hid (Ext w0 W1):=(HV.o.trans X0.o).trans x1;clear hX A1 Z1 x1 HH Ax X0 EN uF jS jI;obtain ⟨e1,he⟩: ∃e',e'=iF e x.name prev:=⟨_,rfl⟩;have wW:=ae he;clear he;go_upto_region 2 with fail
 go_cut [] (fun wx=>FE wx K e1∧ar K W1 wx∧aQ wx B 32 c.cells∧aQ wx X 87 x.cells)
 case first=>
  as_aux_lemma=>
   obtain ⟨k0,k1,k2,k3,k4,k5,k6,k7⟩:=ai.at HB.o;go_wp2_with fail
   refine (mA w0 W1 K c _ 6 i prev _ x.name Wq.o (by decide) l_.o vr.o df.o gV.o f_.o Wu.o HF.o).mono ?_;rintro e w2 ⟨rfl,hf,hx⟩;have nY:ar K W1 w2:=hx;have hf':FE w2 K e1:=by(rw [wW.o];exact hf)
   have hA':=HX.o.but hx EO;have mD:=HB.o.but hx gQ
   have HR:=ae (And.intro hf' (And.intro nY (And.intro mD hA')));clear hf hx hf' nY hA' mD k0 k1 k2 k3 k4 k5 k6 k7;go_wp2_with fail
   go_meet
   exact HR.o
 case rest=>
  obtain ⟨hF,hx,mD,hA'⟩:=hcut;generalize wc=V1 at*;have HF:=ae hF;have HB:=ae mD;have HX:=ae hA'
  have kV:=ae (kV.o.trans hx);have gV:=ae (hx.ext gV.o df.o)
  clear hF hx mD hA';obtain ⟨e2,he⟩: ∃e',e'=nd e1 (bP 1 2 [(x.lines.length:Int)]) 4:=⟨_,rfl⟩;have zk:=ae he;clear he;go_upto_region 3 with fail
  go_cut [] (fun wx=>FE wx K e2∧ar K V1 wx∧aQ wx B 32 c.cells∧aQ wx X 87 x.cells)
  case first=>
   as_aux_lemma=>
    have c1:=HX.o.cl 1 (.slice x.la x.lines.length x.lc) rfl;have IE:=Re.o;go_wp2_with fail
    refine (zb V1 (x.lines.length:Int) 1 2 Rc.o).mono ?_;rintro e w1 ⟨rfl,rfl⟩;go_wp2_with fail
    refine (cP _ K _ _ _ _ _ _ (HF.o.alloc _)).mono ?_;rintro e w2 ⟨rfl,hf,hx⟩;have nY:ar K V1 w2:=((ar.refl K V1).alloc' _).trans hx;have hf':FE w2 K e2:=by(rw [zk.o];exact hf)
    have hA':=(HX.o.alloc' _).but hx EO;have mD:=(HB.o.alloc' _).but hx gQ
    have HR:=ae (And.intro hf' (And.intro nY (And.intro mD hA')));clear hf hx hf' nY hA' mD c1;go_wp2_with fail
    go_meet
    exact HR.o
  case rest=>
   obtain ⟨hF,hx,mD,hA'⟩:=hcut;generalize wc=V2 at*;have HF:=ae hF;have HB:=ae mD;have HX:=ae hA'
   have kV:=ae (kV.o.trans hx);have gV:=ae (hx.ext gV.o df.o)
   clear hF hx mD hA';obtain ⟨e3,he⟩: ∃e',e'=nd e2 (bP 0 ((c.lines.length:Int)-1) x.lines) 12:=⟨_,rfl⟩;have wX:=ae he;clear he;go_upto_region 4 with fail
   go_cut [] (fun wx=>FE wx K e3∧ar K V2 wx∧aQ wx B 32 c.cells∧aQ wx X 87 x.cells)
   case first=>
    as_aux_lemma=>
     obtain ⟨k0,k1,k2,k3,k4,k5,k6,k7⟩:=ai.at HB.o;have c1:=HX.o.cl 1 (.slice x.la x.lines.length x.lc) rfl;have hwl:=HWL.o;have wM:=HL1.o
     go_wp2_with fail
     refine (eY _ _ _ x.la x.lc x.lines (lD.o.ext gV.o)).mono ?_;rintro e w1 ⟨rfl,gH⟩;rw [gH];clear gH;go_wp2_with fail
     refine (cP _ K _ _ _ _ _ _ HF.o).mono ?_;rintro e w2 ⟨rfl,hf,hx⟩;have nY:ar K V2 w2:=hx;have hf':FE w2 K e3:=by(rw [wX.o];exact hf)
     have hA':=HX.o.but hx EO;have mD:=HB.o.but hx gQ
     have HR:=ae (And.intro hf' (And.intro nY (And.intro mD hA')));clear hf hx hf' nY hA' mD k0 k1 k2 k3 k4 k5 k6 k7 c1;go_wp2_with fail
     go_meet
     exact HR.o
   case rest=>
    obtain ⟨hF,hx,mD,hA'⟩:=hcut;generalize wc=V3 at*;have HF:=ae hF;have HB:=ae mD;have HX:=ae hA'
    have kV:=ae (kV.o.trans hx);have gV:=ae (hx.ext gV.o df.o)
    clear hF hx mD hA';obtain ⟨e4,he⟩: ∃e',e'=nd e3 (iP x.lines) 11:=⟨_,rfl⟩;have zl:=ae he;clear he;go_upto_region 5 with fail
    go_cut [] (fun wx=>FE wx K e4∧ar K V3 wx∧aQ wx B 32 c.cells∧aQ wx X 87 x.cells)
    case first=>
     as_aux_lemma=>
      have c1:=HX.o.cl 1 (.slice x.la x.lines.length x.lc) rfl;go_wp2_with fail
      refine (pT _ x.la x.lc x.lines (lD.o.ext gV.o)).mono ?_;rintro e w1 ⟨rfl,x1⟩;have c1:=ak x1 c1;go_wp2_with fail
      refine (cP _ K _ _ _ _ _ _ (HF.o.ext x1)).mono ?_;rintro e w2 ⟨rfl,hf,hx⟩;have nY:ar K V3 w2:=(x1.but K).trans hx;have hf':FE w2 K e4:=by(rw [zl.o];exact hf)
      have hA':=(HX.o.ext x1).but hx EO;have mD:=(HB.o.ext x1).but hx gQ
      have HR:=ae (And.intro hf' (And.intro nY (And.intro mD hA')));clear hf hx hf' nY hA' mD c1;go_wp2_with fail
      go_meet
      exact HR.o
    case rest=>
     obtain ⟨hF,hx,mD,hA'⟩:=hcut;generalize wc=V4 at*;have HF:=ae hF;have HB:=ae mD;have HX:=ae hA'
     have kV:=ae (kV.o.trans hx);have gV:=ae (hx.ext gV.o df.o)
     clear hF hx mD hA'
     as_aux_lemma=>
      obtain ⟨e5,he⟩: ∃e',e'=nd e4 (x.bI||decide (x.moves.length=0)) 16:=⟨_,rfl⟩;have MV:=ae he;clear he;go_upto_region 6 with fail
      go_cut [] (fun wx=>FE wx K e5∧ar K V4 wx∧aQ wx B 32 c.cells∧aQ wx X 87 x.cells)
      case first=>
       as_aux_lemma=>
        have c2:=HX.o.cl 2 (.bool x.bI) rfl;have c3:=HX.o.cl 3 (.slice x.ma x.moves.length x.mc) rfl;have hz:Hid (((x.moves.length:Int)==0)=decide (x.moves.length=0)):=by(show _=_;rw [Bool.eq_iff_iff];simp;try omega)
        rcases Bool.eq_false_or_eq_true x.bI with hp|hp
        ·have HP:=ae hp
         clear hz;go_wp2_with fail
         refine (cP _ K _ _ _ _ _ _ HF.o).mono ?_;rintro e w2 ⟨rfl,hf,hx⟩;have nY:ar K V4 w2:=hx;have hf':FE w2 K e5:=by(rw [MV.o];rw [HP.o,Bool.true_or];exact hf)
         have hA':=HX.o.but hx EO;have mD:=HB.o.but hx gQ
         have HR:=ae (And.intro hf' (And.intro nY (And.intro mD hA')));clear hf hx hf' nY hA' mD c2 c3;go_wp2_with fail
         go_meet
         exact HR.o
        ·have HP:=ae hp
         have hq:((x.moves.length:Int)==0)=decide (x.moves.length=0):=hz.o;clear hz;go_wp2_with fail
         refine (cP _ K _ _ _ _ _ _ HF.o).mono ?_;rintro e w2 ⟨rfl,hf,hx⟩;have nY:ar K V4 w2:=hx;have hf':FE w2 K e5:=by(rw [MV.o];rw [HP.o,Bool.false_or];simpa using hf)
         have hA':=HX.o.but hx EO;have mD:=HB.o.but hx gQ
         have HR:=ae (And.intro hf' (And.intro nY (And.intro mD hA')));clear hf hx hf' nY hA' mD c2 c3;go_wp2_with fail
         go_meet
         exact HR.o
      case rest=>
       obtain ⟨hF,hx,mD,hA'⟩:=hcut;generalize wc=V5 at*;have HF:=ae hF;have HB:=ae mD;have HX:=ae hA'
       have kV:=ae (kV.o.trans hx);have gV:=ae (hx.ext gV.o df.o)
       clear hF hx mD hA';obtain ⟨e6,he⟩: ∃e',e'=nd e5 (decide ((x.moves.length:Int)≤16)) 8:=⟨_,rfl⟩;have N9:=ae he;clear he;go_upto_region 7 with fail
       go_cut [] (fun wx=>FE wx K e6∧ar K V5 wx∧aQ wx B 32 c.cells∧aQ wx X 87 x.cells)
       case first=>
        as_aux_lemma=>
         have c3:=HX.o.cl 3 (.slice x.ma x.moves.length x.mc) rfl;have Rf:=UO.o;go_wp2_with fail
         refine (cP _ K _ _ _ _ _ _ HF.o).mono ?_;rintro e w2 ⟨rfl,hf,hx⟩;have nY:ar K V5 w2:=hx;have hf':FE w2 K e6:=by(rw [N9.o];exact hf)
         have hA':=HX.o.but hx EO;have mD:=HB.o.but hx gQ
         have HR:=ae (And.intro hf' (And.intro nY (And.intro mD hA')));clear hf hx hf' nY hA' mD c3;go_wp2_with fail
         go_meet
         exact HR.o
       case rest=>
        obtain ⟨hF,hx,mD,hA'⟩:=hcut;generalize wc=V6 at*;have HF:=ae hF;have HB:=ae mD;have HX:=ae hA'
        have kV:=ae (kV.o.trans hx);have gV:=ae (hx.ext gV.o df.o)
        clear hF hx mD hA';have x3:=HX.o.cl 3 (.slice x.ma x.moves.length x.mc) rfl;have Rf:=UO.o;go_wp2_with fail
        clear x3;go_loopw [8,73] (fun v ii wr=> ∃i:Nat,i≤x.moves.length∧aJ wr V6.heap.size 3 1 v ((x.moves.take i).map fun m=> [i64 m.unit])∧Ext V6 wr∧ii= .int .i64 i) (fun _ ii _=>x.moves.length-(intOf ii).toNat)
        case atStart=>exact ⟨0,Nat.zero_le _,aJ.nil _ _ _ _,Ext.refl _,rfl⟩
        case round=>
         obtain ⟨i,hi,hown,hE,rfl⟩:=hrel;have HO:=ae hown;clear hown;by_cases hlt:i<x.moves.length
         ·obtain ⟨b,o,ha,m0,m1,m2⟩:=((UN.o.ext gV.o).ext hE).moves i hlt
          have HST:Hid ((x.moves.take (i+1)).map (fun m=> [i64 m.unit])=(x.moves.take i).map (fun m=> [i64 m.unit])++ [[i64 x.moves[i].unit]]):=by
             show _=_;rw [List.take_succ_eq_append_getElem hlt,List.map_append];rfl
          have HLEN:Hid (((x.moves.take i).map fun m=> [i64 m.unit]).length=i):=by show _=_;simp;omega
          generalize (x.moves.take i).map (fun m=> [i64 m.unit])=rows at*;obtain ⟨g,hg⟩: ∃g,g=x.moves[i]:=⟨_,rfl⟩;rw [←hg]at m0 m1 m2 HST;have jS:(0:Int)≤(i:Int):=by omega
          have jI:(i:Int)<(x.moves.length:Int):=by omega
          have uF:=ae ha;have wJ:=hE.size;have HE:=ae hE
          have HOW:Hid (wr.ownsRow V6.heap.size 3 1 u8 i rows.flatten):=by
             have h5:=HO.o.own;rw [HLEN.o]at h5;exact h5
          clear ha hg hE;rw [uF.o];go_upto_region 12 with fail
          obtain ⟨W2,hW2,x2,Z2,A2⟩:=aX wr 140 g.cells;rw [show wr.alloc (.cells #[i64 g.unit,i64 g.up,i64 g.down] 140)=W2 from hW2.symm];clear hW2;obtain ⟨E,nP⟩: ∃E,E=wr.heap.size:=⟨_,rfl⟩;rw [←nP]at A2⊢;have z0:W2.cell? ⟨E,0,none⟩=some (i64 g.unit):=(A2.cell 0).trans rfl;have h2s:=x2.size;have ez:=ae x2;clear nP Z2 A2 m0 m1 m2 x2;go_wp2_with (at_builtin;refine qM _ rfl (.tmp 77) (.tmp 80) 22 rfl V6.heap.size 3 (.int .i64 0) 1 8 underlying22 Tryz.info_int rfl (by decide) u8 i rows.flatten rfl ?c1 (some ⟨W2.heap.size,0,none⟩) 1 1 [i64 g.unit] rfl rfl ?c2 ?c3 ?c4 ?c5 ?c7 ?c6 ?_;rotate_right;intro v1 w5 ho he hb hz hv)
          case c1=>exact bW (bW HOW.o ez.o) ((Ext.refl _).alloc _)
          case c2=>exact fun _=>⟨_,rfl,dD W2 3 [i64 g.unit]⟩
          case c3=>intro u hu;rw [List.mem_singleton]at hu;subst hu;rfl
          case c4=>intro e;cases e
          case c5=>omega
          case c7=>have:=HMS.o;omega
          case c6=>simp;omega
          have x5:Ext V6 w5:=he.o V6 ((HE.o.trans ez.o).alloc _) (Nat.le_refl _);have kF:=HO.o.snoc (w':=w5) (v':=v1) (r:= [i64 g.unit]) rfl (by rw [HLEN.o];exact ho.o);rw [←HST.o]at kF;exact ⟨⟨i+1,by omega,kF,x5,by go_num⟩,by simp only [intOf];omega⟩
         ·obtain rfl:i=x.moves.length:=by omega
          rw [List.take_length]at HO;obtain ⟨ua,uc,rfl,hS,jm⟩:=HO.o.recs (by decide);have e1:(x.moves.map fun m=> [i64 m.unit])=(x.moves.map bL.unit).map fun z=> [i64 z]:=by rw [List.map_map];rfl
          rw [e1]at hS;have Wv:aI wr ua uc (x.moves.map bL.unit):=aI.ov hS HMU.o;obtain ⟨us,UQ⟩: ∃us,us=x.moves.map bL.unit:=⟨_,rfl⟩;have Rg:=ae UQ;rw [←UQ]at Wv;have A9:(x.moves.map fun m=> [i64 m.unit]).length=us.length:=by rw [UQ,List.length_map,List.length_map]
          rw [A9]
          have hUN: ∀p,ua=some p→p.block≠K:=fun p hp=>by
             have h1:=jm p hp;have h2:=HF.o.lt
             omega
          have Rh:=ae hUN;have vh:=ae (HF.o.ext hE);have Dm:=ae (HB.o.ext hE);have eE:=ae (HX.o.ext hE)
          have A_:=ae (gV.o.trans hE);have Ba:=ae (kV.o.trans (hE.but K));have Ri:=ae Wv
          clear HF HB HX gV kV;have HF:=vh;have HB:=Dm;have HX:=eE;have gV:=A_;have kV:=Ba
          clear vh Dm eE A_ Ba hS e1 HO Wv UQ hE A9 Rf hi hlt hUN jm;obtain ⟨-,-,-,-,k4,-,-,-⟩:=ai.at HB.o;have hwu:=HWU.o;have hl2:=MU.o
          obtain ⟨e7,he⟩: ∃e',e'=nd e6 (bP 0 ((c.aq.length:Int)-1) us) 12:=⟨_,rfl⟩;have N_:=ae he;clear he;go_wp2_with fail
          refine (eY _ _ _ ua uc us Ri.o).mono ?_;rintro e5 w1 ⟨rfl,rfl⟩;clear hwu hl2;go_wp2_with fail
          refine (cP _ K _ _ _ _ _ _ HF.o).mono ?_;rintro e5 W6 ⟨rfl,Lf,jB⟩;rw [←N_.o]at Lf;have Rj:Hid (aI W6 ua uc us):=Ri.o.dC jB Rh.o;have HF6:=ae Lf;have Ay:Hid (aQ W6 X 87 x.cells):=HX.o.but jB EO
          have Rk:=ae (kV.o.trans jB);obtain ⟨e8,he⟩: ∃e',e'=nd e7 (iP us) 11:=⟨_,rfl⟩;have HQ8:=ae he;clear he Lf jB k4 HF HX kV gV HB Ri;go_wp2_with fail
          refine (pT _ ua uc us Rj.o).mono ?_;rintro e5 w7 ⟨rfl,x7⟩;go_wp2_with fail
          refine (cP _ K _ _ _ _ _ _ (HF6.o.ext x7)).mono ?_;rintro e5 W8 ⟨rfl,Ww,g_⟩;rw [←HQ8.o]at Ww;have HF:=ae Ww;have HX:Hid (aQ W8 X 87 x.cells):=(Ay.o.ext x7).but g_ EO
          have kV:=ae ((Rk.o.trans (x7.but K)).trans g_);clear Ww g_ x7 HF6 Ay Rk Rj;have x3:=HX.o.cl 3 (.slice x.ma x.moves.length x.mc) rfl;have Rf:=UO.o;go_wp2_with fail
          clear x3 Rf;go_loopw [102] (fun ii wr=> ∃i:Nat,i≤x.moves.length∧FE wr K (nd e8 ((x.moves.take i).all wU) 3)∧ar K V wr∧ii= .int .i64 i) (fun ii _=>x.moves.length-(intOf ii).toNat)
          case atStart=>exact ⟨0,Nat.zero_le _,by simpa [bY]using HF.o,kV.o,rfl⟩
          case round=>
             obtain ⟨i,hi,hF,hX,rfl⟩:=hrel;clear HF kV HX;have Rf:=UO.o;by_cases hlt:i<x.moves.length
             ·have hE:=hX.ext HV.o df.o
              obtain ⟨b,o,ha,m0,m1,m2⟩:=(UN.o.ext hE).moves i hlt;have HT:=ae (Dk x.moves i hlt);have Hy:=Ws.o x.moves[i] (List.getElem_mem hlt);generalize (x.moves.take i).all wU=q at*;obtain ⟨g,hg⟩: ∃g,g=x.moves[i]:=⟨_,rfl⟩;rw [←hg]at m0 m1 m2 HT Hy;have Wx:=ae (Hy g.up (by simp));have Wy:=ae (Hy g.down (by simp))
              have HF:=ae hF;have HX:=ae hX;have UR:=ae (nL e8 q (wU g) 3 (by decide))
              have uF:=ae ha;have jS:(0:Int)≤(i:Int):=by omega
              have jI:(i:Int)<(x.moves.length:Int):=by omega
              clear hF hX hE hg Hy ha;rw [uF.o];go_upto_region 19 with fail
              obtain ⟨W2,hW2,x2,Z2,A2⟩:=aX wr 140 g.cells;rw [show wr.alloc (.cells #[i64 g.unit,i64 g.up,i64 g.down] 140)=W2 from hW2.symm];clear hW2;obtain ⟨E,nP⟩: ∃E,E=wr.heap.size:=⟨_,rfl⟩;rw [←nP]at A2⊢;have z1:W2.cell? ⟨E,1,none⟩=some (i64 g.up):=(A2.cell 1).trans rfl;have z2:W2.cell? ⟨E,2,none⟩=some (i64 g.down):=(A2.cell 2).trans rfl;have Gf:=ae (HF.o.ext x2);have ez:Hid (ar K V W2):=HX.o.trans (x2.but K)
              clear nP Z2 A2 m0 m1 m2 x2;go_wp2_with fail
              refine (Wo W2 g.up g.down 0 1048576 Wx.o Wy.o).mono ?_;rintro e6 w1 ⟨rfl,rfl⟩;go_wp2_with fail
              refine (cP _ K _ _ _ _ _ _ (Gf.o.alloc _)).mono ?_;rintro e6 W4 ⟨rfl,Iw,fl⟩;have MS:=ae Iw;have qI:Hid (ar K V W4):=(ez.o.alloc' _).trans fl;clear Iw fl z1 z2;go_wp2_with fail
              exact ⟨⟨i+1,by omega,by rw [HT.o,←UR.o];exact MS.o,qI.o,by go_num⟩,by simp only [intOf];omega⟩
             ·obtain rfl:i=x.moves.length:=by omega
              rw [List.take_length]at hF;have HF:=ae hF;have HX:=ae hX
              clear hF hX;go_wp2_with fail
              exact bodyPost_end (v:= .tuple #[]) (by simp [results,results61,go_sem]) rfl ⟨rfl,by rw [←Rg.o,←wW.o,←zk.o,←wX.o,←zl.o,←MV.o,←N9.o,←N_.o,←HQ8.o];exact HF.o,HX.o⟩
def sH (c:ai) (i:Nat):List Int:=(c.lines[i]?.map aS.away).getD []
theorem yh {c:ai} {i:Nat} (h:i<c.lines.length):sH c i=c.lines[i].away:=by unfold sH;rw [List.getElem?_eq_getElem h];rfl
def cX (c:ai) (h:Int) (n:Nat):List Nat:=(List.range n).filter fun i=> !hasB (sH c i) h
theorem tJ (c:ai) (h:Int) (n:Nat):cX c h (n+1)=if hasB (sH c n) h=true then cX c h n else cX c h n++ [n]:=by
 unfold cX;rw [List.range_succ,List.filter_append];cases q:hasB (sH c n) h<;>simp [q]
theorem iQ (c:ai) (h:Int) (n:Nat):(cX c h n).length≤n:=by
 have:=List.length_filter_le (fun i=> !hasB (sH c i) h) (List.range n);rw [List.length_range]at this;exact this
theorem jL (c:ai) (h:Int) (n:Nat): ∀i∈cX c h n,i<n:=fun i hi=>List.mem_range.1 (List.mem_filter.1 hi).1
def gh (l:List Nat):List (List Value):=l.map fun(j:Nat)=> [i64 (j:Int)]
theorem mZ (l:List Nat) (n:Nat):gh (l++ [n])=gh l++ [[i64 (n:Int)]]:=by simp [gh]
theorem d_ (l:List Nat):(gh l).length=l.length:=by simp [gh]
def dE (l:List Nat):List Int:=l.map fun(j:Nat)=>(j:Int)
theorem m_ (l:List Nat):gh l=(dE l).map fun z=> [i64 z]:=by simp [gh,dE]
theorem ow {l:List Nat} {n:Nat} (h: ∀i∈l,i<n) (hn:n≤9223372036854775807):eI (dE l):=fun z hz=>by
 obtain ⟨j,hj,rfl⟩:=List.mem_map.1 hz;have:=h j hj;unfold bB;omega
theorem dB (l:List Nat):(dE l).length=l.length:=by simp [dE]
theorem wY (w0 V:World) (c:ai) (h:Int) (hV:Ext w0 V) (hc:a_ w0 c) (hn:c.lines.length≤1000000):
 Calls prog 103 #[.agg (C8 c),i64 h] V fun e w'=> ∃a cap,e= .returned (.slice a (cX c h c.lines.length).length cap)∧aI w' a cap (dE (cX c h c.lines.length))∧Ext V w'∧Fr V.heap.size a:=by
 try unfold C8
 have hr:=hc.lines;have hle:=hr.le;have dQ:=hr.cap
 rw [List.length_map]at hle;have HR:=ae hr;have HV:=ae hV;have HN:=ae hn;have Hz:=ae hc.line
 clear hc hr hV hn;go_enter func103,ntmps103
 go_upto_region 1 with fail
 obtain ⟨W,hW,x0,Z0,A0⟩:=aX V 32 c.cells;rw [show V.alloc (.cells (C8 c) 32)=W from hW.symm];clear hW;have HA:=ae A0;have HX:=ae x0
 obtain ⟨B,hB⟩: ∃B,B=V.heap.size:=⟨_,rfl⟩;rw [←hB]at HA⊢;clear A0 x0 Z0;have EN:=ae hB;clear hB;go_wp2_with fail
 go_loopw [5,6] (fun v ii wr=> ∃i:Nat,i≤c.lines.length∧aJ wr W.heap.size 3 1 v (gh (cX c h i))∧Ext W wr∧ii= .int .i64 i) (fun _ ii _=>c.lines.length-(intOf ii).toNat)
 case atStart=>exact ⟨0,Nat.zero_le _,aJ.nil _ _ _ _,Ext.refl _,rfl⟩
 case round=>
  obtain ⟨i,hi,hown,hE,rfl⟩:=hrel;have HO:=ae hown;obtain ⟨-,-,-,k3,-⟩:=ai.at (HA.o.ext hE);clear hown;by_cases hlt:i<c.lines.length
  ·obtain ⟨b,o,ha,-,-,-,-,-,-,-,-,-,-,-,c11⟩:=((HR.o.ext HV.o).ext (HX.o.trans hE)).lines i hlt
   have Qa:=(Hz.o c.lines[i] (List.getElem_mem hlt)).2.1;have HST:=ae (tJ c h i);have mE:=ae (za wr _ _ _ h ((Qa.ext HV.o).ext (HX.o.trans hE)));rw [yh hlt]at HST;generalize c.lines[i]=x at*;have HLEN:=ae (iQ c h i);generalize cX c h i=l at*;rw [ha]at k3;have jS:(0:Int)≤(i:Int):=by omega
   have jI:(i:Int)<(c.lines.length:Int):=by omega
   have HE:=ae hE;have wJ:=hE.size
   clear ha hE Qa;rcases Bool.eq_false_or_eq_true (hasB x.away h)with hq|hq
   ·rw [hq]at mE HST
    clear hq;go_wp2_with fail
    refine mE.o.mono ?_;rintro e w1 ⟨rfl,gH⟩;rw [gH];clear gH
    go_wp2_with fail
    exact ⟨⟨i+1,by omega,by rw [HST.o];simpa using HO.o,HE.o,by go_num⟩,by simp only [intOf];omega⟩
   ·rw [hq]at mE HST
    clear hq
    have HOW:Hid (wr.ownsRow W.heap.size 3 1 u5 l.length (gh l).flatten):=by
     have h5:=HO.o.own;rw [d_]at h5;exact h5
    go_wp2_with fail
    refine mE.o.mono ?_;rintro e w1 ⟨rfl,gH⟩;rw [gH];clear gH
    go_wp2_with (at_builtin;refine bn _ rfl (.tmp 23) (.tmp 25) 22 rfl W.heap.size 3 (.int .i64 0) 1 8 underlying22 Tryz.info_int rfl (by decide) u5 l.length (gh l).flatten rfl ?c1 (some ⟨wr.heap.size,0,none⟩) 1 1 [i64 (i:Int)] rfl rfl ?c2 ?c3 ?c4 ?c5 (by decide) ?c6 ?_;rotate_right;intro v1 w5 ho he hb hz hv)
    case c1=>exact bW HOW.o ((Ext.refl _).alloc _)
    case c2=>exact fun _=>⟨_,rfl,dD wr 3 [i64 (i:Int)]⟩
    case c3=>intro u hu;rw [List.mem_singleton]at hu;subst hu;rfl
    case c4=>intro e;cases e
    case c5=>have:=HN.o;have:=HLEN.o;omega
    case c6=>have:=wJ;simp;omega
    have x5:Ext W w5:=he.o W (HE.o.alloc _) (Nat.le_refl _);have kF:=HO.o.snoc (w':=w5) (v':=v1) (r:= [i64 (i:Int)]) rfl (by rw [d_];exact ho.o);rw [←mZ]at kF;exact ⟨⟨i+1,by omega,by rw [HST.o];simpa using kF,x5,by go_num⟩,by simp only [intOf];omega⟩
  ·obtain rfl:i=c.lines.length:=by omega
   obtain ⟨a,cap,rfl,hS,jm⟩:=HO.o.recs (by decide);rw [d_];rw [m_]at hS;have HI:=ae (aI.ov hS (ow (jL c h _) (by omega)));have qH:=ae jm;clear hS jm HO;go_wp2_with fail
   go_ret;exact ⟨a,cap,rfl,HI.o,HX.o.trans hE,qH.o.mono HX.o.size⟩
def wZ (l:List Int) (n:Nat):Nat:=(List.range n).countP fun b=>jG l b==(b:Int)
theorem Gg (l:List Int) (n:Nat):wZ l (n+1)=wZ l n+if(jG l n==(n:Int))=true then 1 else 0:=by
 unfold wZ;rw [List.range_succ,List.countP_append,List.countP_singleton]
theorem Lg (l:List Int) (n:Nat):wZ l n≤n:=by
 unfold wZ;have:=List.countP_le_length (p:=fun b:Nat=>jG l b==(b:Int)) (l:=List.range n);rw [List.length_range]at this;exact this
theorem yi (w:World) (a:Option Addr) (c:Nat) (l:List Int) (h:aI w a c l):
 Calls prog 104 #[.slice a l.length c] w fun e w'=>e= .returned (i64 (wZ l l.length))∧w'=w:=by
 have hle:=h.le;have dQ:=h.cap
 have HL:=ae h;clear h;go_enter func104,ntmps104
 go_wp2_with fail
 go_loopw [3,4] (fun nn ii wr=> ∃i:Nat,i≤l.length∧wr=w∧nn= .int .i64 (wZ l i)∧ii= .int .i64 i) (fun _ ii _=>l.length-(intOf ii).toNat)
 case atStart=>exact ⟨0,Nat.zero_le _,rfl,rfl,rfl⟩
 case round=>
  obtain ⟨i,hi,hw,rfl,rfl⟩:=hrel;subst hw;by_cases hlt:i<l.length
  ·obtain ⟨b,o,rfl,c0⟩:=HL.o.cell i hlt
   rw [←kt hlt]at c0;have HC:=ae (Gg l i);have Qb:=Lg l i;generalize wZ l i=q at*;obtain ⟨x,hx⟩: ∃x,x=jG l i:=⟨_,rfl⟩;rw [←hx]at c0 HC;clear hx;have jS:(0:Int)≤(i:Int):=by omega
   have jI:(i:Int)<(l.length:Int):=by omega
   rcases Bool.eq_false_or_eq_true (x==(i:Int))with hq|hq
   ·have HQ:=ae hq
    go_wp2_with fail
    exact ⟨⟨i+1,by omega,by first|trivial|rfl,by rw [HC.o,HQ.o,if_pos rfl];go_num,by go_num⟩,by simp only [intOf];omega⟩
   ·have HQ:=ae hq
    go_wp2_with fail
    exact ⟨⟨i+1,by omega,by first|trivial|rfl,by rw [HC.o,HQ.o,if_neg (by decide)];rfl,by go_num⟩,by simp only [intOf];omega⟩
  ·obtain rfl:i=l.length:=by omega
   go_wp2_with fail
   go_ret;exact ⟨rfl,rfl⟩
section
variable{P:Program} (w:World)
theorem pK {o:Oper} {a:Act} {Q:Exit→Act→World→Prop} {K:Act→World→Prop} (s x:Operand) (t:TypeId)
 (ho:o.op= .call {callee:= .builtin .append,args:= #[s,x],argTypes:= #[t,t]})
 (base:Nat) (e:TypeId) (z:Value) (size bytes:Nat) (ht:P.underlying t=some (.slice e)) (iL:(P.info? e).map (fun i=>(i.zero,i.size,i.bytes))=some (some z,size,bytes)) (hzs:z.cells.size=size) (hsz:0<size)
 (v:Value) (n:Nat) (xs:List Value) (hs:a.eval s=v) (hown:w.ownsRow base e size v n xs)
 (xa:Option Addr) (m c:Nat) (news:List Value) (hx:a.eval x= .slice xa m c) (hl:news.length=m*size) (hnews:0<m→ ∃ad,xa=some ad∧ ∀j u,news[j]?=some u→w.cell? (ad.add j)=some u) (h1: ∀u∈news,u.oneCell'=true)
 (hnil:xa=none→m=0∧c=0)
 (h63:n+m≤1200000000000) (hbytes:bytes≤100) (hbase:base≤w.heap.size)
 (h: ∀v' w',Hid (w'.ownsRow base e size v' (n+m) (xs++news))→Hid (∀a0,Ext a0 w→a0.heap.size≤base→Ext a0 w')→Hid (∀k,k<w.heap.size→some k≠v.ownBlock→w'.heap[k]?=w.heap[k]?)→Hid (w.heap.size≤w'.heap.size)→Hid (v'.ownBlock=v.ownBlock∨ ∃g,v'.ownBlock=some g∧w.heap.size≤g)→K (a.put o.dst v') w') (hm:0<m):Oper.wp P o a w K Q:=by
 obtain ⟨i,hi,hz,hsize,hby⟩:=info_parts iL;have hlt:=hown.lt;have hb:(n+m)*bytes≤140737488355328:=Nat.le_trans (Nat.mul_le_mul h63 hbytes) (by decide);have ue:n+m≤maxLen:=by unfold maxLen;omega
 cases xa with
 |none=>
  obtain ⟨rfl,rfl⟩:=hnil rfl;omega
 |some ad=>
  have mU: ∀j u,news[j]?=some u→w.cell? (ad.add j)=some u:=by
   intro j u hu;by_cases hm:0<m
   ·obtain ⟨Wa,e',hh⟩:=hnews hm;cases e';exact hh j u hu
   ·have:news= []:=List.eq_nil_of_length_eq_zero (by rw [hl];have:m=0:=by omega
                                                     simp [this])
    rw [this]at hu;simp at hu
  obtain ⟨v',w',hr,h2,h3,h4,h5⟩:=iM (P:=P) w base t o.type e i z size bytes ht hi hz hsize hby hzs hsz v n xs hown ad m c news hl mU h1 ue hb hbase;unfold Oper.wp execOp;simp only [ho,resolve,invoke,builtin,Sem.run_bind,Sem.run_pure,Result.andThen_ok,List.map_toArray,List.map_cons,List.map_nil,hs,hx,hr];refine (h v' w' h2 (fun a0 ha hb0=>⟨ha.below.trans ⟨h3.os,h3.tape,h3.output,h3.size,fun k hk=>h3.block k (by have:=ha.size;omega) (fun e'=>by have:=hlt k e'.symm;omega)⟩,Nat.le_trans ha.drawn h4⟩) h3.block h3.size h5)
end
theorem Tryz.info_pair:(Tryz.prog.info? 166).map (fun i=>(i.zero,i.size,i.bytes))=some (some (.agg #[i64 0,i64 0]),2,16):=by kernel_rfl
def kW (c:ai) (i:Nat):Int×Int:=((c.lines[i]?.map aS.cR).getD 0,(c.lines[i]?.map aS.kq).getD 0)
theorem o0 {c:ai} {i:Nat} (h:i<c.lines.length):kW c i=(c.lines[i].cR,c.lines[i].kq):=by unfold kW;rw [List.getElem?_eq_getElem h];rfl
def iB (c:ai) (l:List Nat):List (Int×Int):=l.map (kW c)
def gp (l:List (Int×Int)):List (List Value):=l.map fun p=> [i64 p.1,i64 p.2]
theorem nR (l:List (Int×Int)):(gp l).length=l.length:=by simp [gp]
theorem w_ (c:ai) (l:List Nat) (k:Nat) (h:k<l.length):gp (iB c (l.take (k+1)))=gp (iB c (l.take k))++ [[i64 (kW c l[k]).1,i64 (kW c l[k]).2]]:=by
 unfold gp iB;rw [List.take_succ_eq_append_getElem h,List.map_append,List.map_append];rfl
theorem Gh (w0 V:World) (c:ai) (h:Int) (hV:Ext w0 V) (hc:a_ w0 c) (hn:c.lines.length≤1000000):
 Calls prog 62 #[.agg (C8 c),i64 h] V fun e w'=> ∃a cap b cb,e= .returned (.tuple #[.slice a (cX c h c.lines.length).length cap,.slice b (cX c h c.lines.length).length cb])∧bH w' 2 a cap (gp (iB c (cX c h c.lines.length)))∧aI w' b cb (dE (cX c h c.lines.length))∧Ext V w'∧Fr V.heap.size a∧Fr V.heap.size b:=by
 try unfold C8
 have hr:=hc.lines;have hle:=hr.le;have dQ:=hr.cap
 rw [List.length_map]at hle;obtain ⟨l,hl⟩: ∃l,cX c h c.lines.length=l:=⟨_,rfl⟩;have pJ:l.length≤1000000:=by rw [←hl];exact Nat.le_trans (iQ _ _ _) hn
 have hlt: ∀i∈l,i<c.lines.length:=by rw [←hl];exact jL c h _
 have uk:=ae (fun V' (x:Ext w0 V')=>wY w0 V' c h x hc hn);rw [hl]at uk⊢;have HR:=ae hr;have HV:=ae hV;have Gi:=ae hlt;have nS:=ae pJ
 clear hc hr hV hn hl hlt;go_enter func62,ntmps62
 go_upto_region 1 with fail
 obtain ⟨W0,hW,x0,Z0,A0⟩:=aX V 32 c.cells;rw [show V.alloc (.cells (C8 c) 32)=W0 from hW.symm];clear hW;have Ax:=ae A0;have pZ:=ae x0
 obtain ⟨B,hB⟩: ∃B,B=V.heap.size:=⟨_,rfl⟩;rw [←hB]at Ax⊢;clear A0 x0 Z0;have EN:=ae hB;clear hB;obtain ⟨k0,k1,k2,k3,k4,k5,k6,k7⟩:=ai.at Ax.o;go_wp2_with fail
 refine (uk.o W0 (HV.o.trans pZ.o)).mono ?_;rintro e W ⟨a,cap,rfl,hI,x1,jm⟩;have HI:=ae hI;have HX:=ae (pZ.o.trans x1);have HA:=ae (Ax.o.ext x1);have jf:Hid (Fr V.heap.size a):=jm.mono pZ.o.size
 have xc:=hI.le;have EP:=hI.cap
 rw [dB]at xc;clear hI x1 jm k0 k1 k2 k3 k4 k5 k6 k7 pZ Ax uk;go_wp2_with fail
 go_loopw [7,15] (fun v ii wr=> ∃k:Nat,k≤l.length∧aJ wr W.heap.size 166 2 v (gp (iB c (l.take k)))∧Ext W wr∧ii= .int .i64 k) (fun _ ii _=>l.length-(intOf ii).toNat)
 case atStart=>exact ⟨0,Nat.zero_le _,aJ.nil _ _ _ _,Ext.refl _,rfl⟩
 case round=>
  obtain ⟨k,hk,hown,hE,rfl⟩:=hrel;have HO:=ae hown;clear hown;by_cases hlt:k<l.length
  ·obtain ⟨ab,ao,hab,i0⟩:=(HI.o.ext hE).cell k (by rw [dB];exact hlt)
   have yY:=Gi.o l[k] (List.getElem_mem hlt);have e0:(dE l)[k]'(by rw [dB];exact hlt)=((l[k]:Nat):Int):=by simp [dE]
   rw [e0]at i0;have HST:=ae (w_ c l k hlt);rw [o0 yY]at HST;obtain ⟨b,o,ha,-,g1,g2,-⟩:=((HR.o.ext HV.o).ext HX.o).lines l[k] yY;obtain ⟨-,-,-,k3,-⟩:=ai.at HA.o;rw [ha]at k3;have lD:Hid ((gp (iB c (l.take k))).length=k):=by show _=_;rw [nR];simp [iB];omega
   have lD:Hid ((gp (iB c (l.take k))).length≤1000000):=by show _≤_;rw [lD.o];omega
   generalize c.lines[l[k]]=x at*;generalize gp (iB c (l.take k))=rows at*;generalize l[k]=j at*;have jS:(0:Int)≤(k:Int):=by omega
   have jI:(k:Int)<(l.length:Int):=by omega
   have NZ:(0:Int)≤(j:Int):=by omega
   have N1:(j:Int)<(c.lines.length:Int):=by omega
   have HE:=ae hE;have wJ:=hE.size
   have HOW:Hid (wr.ownsRow W.heap.size 166 2 u7 rows.length rows.flatten):=HO.o.own;have Az:=ae hab;clear ha hE hab e0;rw [Az.o];go_wp2_with fail
   refine aL (fun w'=>w'.cell? ⟨B,3,none⟩=some (.slice (some ⟨b,o,none⟩) c.lines.length c.lc)∧w'.cell? ⟨b,o+j*12+1,none⟩=some (i64 x.cR)∧w'.cell? ⟨b,o+j*12+2,none⟩=some (i64 x.kq)) (fun w'=>True) (fun i=>false) (by kernel_rfl) (⟨ak HE.o.drew k3,ak HE.o.drew g1,ak HE.o.drew g2⟩) (trivial) (fun ay ah=> ?_);refine aF 0 ay ah ?_ (v:=u7);refine aF 1 ay ah ?_;refine aF 2 ay ah ?_;refine aF 3 ay ah ?_ (v:= .int .i64 (j:Int));refine aF 4 ay ah ?_;refine aF 5 ay ah ?_;refine aF 6 ay ah ?_ (v:=i64 x.cR);refine aF 7 ay ah ?_;refine aF 8 ay ah ?_;refine aF 9 ay ah ?_ (v:= .int .i64 (j:Int));refine aF 10 ay ah ?_;refine aF 11 ay ah ?_;refine aF 12 ay ah ?_ (v:=i64 x.kq);refine aF 13 ay ah ?_ (v:= .agg #[i64 x.cR,i64 x.kq]);refine fp 14 rfl (fun Kc hK=> ?_);go_simp;refine hK.o _ _ (⟨ak (HE.o.drew.alloc _) k3,ak (HE.o.drew.alloc _) g1,ak (HE.o.drew.alloc _) g2⟩) (trivial) (fun ay ah=> ?_);clear hK Kc;try simp only [sS]
   refine fp 15 rfl (fun Kc hK=> ?_);rw [if_pos (by rfl)];refine pK _ (.tmp 19) (.tmp 33) 108 rfl W.heap.size 166 (.agg #[i64 0,i64 0]) 2 16 underlying108 Tryz.info_pair rfl (by decide) u7 rows.length rows.flatten rfl ?c1 (some ⟨wr.heap.size,0,none⟩) 1 1 [i64 x.cR,i64 x.kq] rfl rfl ?c2 ?c3 ?c4 ?c5 (by decide) ?c6 ?c7 (by decide)
   case c1=>exact bW HOW.o ((Ext.refl wr).drew.alloc _)
   case c2=>exact fun _=>⟨_,rfl,dD wr.drew 166 [i64 x.cR,i64 x.kq]⟩
   case c3=>intro u hu;simp only [List.mem_cons,List.not_mem_nil,or_false]at hu;rcases hu with rfl|rfl<;>rfl
   case c4=>intro e;cases e
   case c5=>have:=lD.o;omega
   case c6=>exact Nat.le_trans wJ ((Ext.refl wr).drew.alloc _).size
   intro v1 w5 ho he hb hz hv;have x5:Ext W w5:=he.o W (HE.o.drew.alloc _) (Nat.le_refl _);refine hK.o _ _ (⟨ak x5 k3,ak x5 g1,ak x5 g2⟩) (trivial) (fun ay ah=> ?_);clear hK Kc;try simp only [sS]
   refine aF 16 ay ah ?_ (v:=v1);refine aD (by kernel_rfl) ?_ _;clear ay ah;have kF:=HO.o.snoc (w':=w5) (v':=v1) (r:= [i64 x.cR,i64 x.kq]) rfl ho.o;rw [←HST.o]at kF;go_wp2_with fail
   exact ⟨⟨k+1,by omega,kF,x5,by go_num⟩,by simp only [intOf];omega⟩
  ·obtain rfl:k=l.length:=by omega
   rw [List.take_length]at HO;obtain ⟨pa,pc,rfl,hS,jm⟩:=HO.o.recs (by decide);have e1:(gp (iB c l)).length=l.length:=by rw [nR];simp [iB]
   rw [e1];have HS:=ae hS;have qH:=ae jm
   clear hS jm HO e1;go_wp2_with fail
   exact bodyPost_ret (v:= .tuple #[.slice pa l.length pc,.slice a l.length cap]) (by simp [results,results62,go_sem]) rfl ⟨pa,pc,a,cap,rfl,HS.o,HI.o.ext hE,HX.o.trans hE,qH.o.mono HX.o.size,jf.o⟩
end Go.Proofs.YtkpngkdgphojlaaGreat
