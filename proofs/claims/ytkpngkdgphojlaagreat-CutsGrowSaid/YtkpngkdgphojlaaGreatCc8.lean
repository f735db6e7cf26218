/- Texts of the proof. -/
import Derived.Test.YtkpngkdgphojlaaGreatCc6
set_option linter.all false
namespace Go.Proofs.YtkpngkdgphojlaaGreat
open Go.RowKit
section
variable{P:Program} (w:World)
theorem oZ {ops:Array Oper} {rest:List Oper} {o:Oper} {a:Act} {Q:Exit→Act→World→Prop} (hgd:o.guard=none) (s x:Operand) (t:TypeId)
 (ho:o.op= .call {callee:= .builtin .append,args:= #[s,x],argTypes:= #[t,t]})
 (base:Nat) (e:TypeId) (z:Value) (size bytes:Nat) (ht:P.underlying t=some (.slice e)) (iX:(P.info? e).map (fun i=>(i.zero,i.size,i.bytes))=some (some z,size,bytes)) (hzs:z.cells.size=size) (hsz:0<size)
 (v:Value) (n:Nat) (xs:List Value) (hs:a.eval s=v) (hown:w.ownsRow base e size v n xs)
 (xa:Option Addr) (m c:Nat) (news:List Value) (hx:a.eval x= .slice xa m c) (hl:news.length=m*size) (hnews:0<m→ ∃ad,xa=some ad∧ ∀j u,news[j]?=some u→w.cell? (ad.add j)=some u) (h1: ∀u∈news,u.oneCell'=true)
 (hnil:xa=none→m=0∧c=0)
 (rE:n+m≤9223372036854775807) (hb:(n+m)*bytes≤140737488355328) (hbase:base≤w.heap.size)
 (h: ∀v' w',Hid (w'.ownsRow base e size v' (n+m) (xs++news))→Hid (∀a0,Ext a0 w→a0.heap.size≤base→Ext a0 w')→Hid (∀k,k<w.heap.size→some k≠v.ownBlock→w'.heap[k]?=w.heap[k]?)→Hid (w.heap.size≤w'.heap.size)→Hid (v'.ownBlock=v.ownBlock∨ ∃g,v'.ownBlock=some g∧w.heap.size≤g)→wpList P ops Q rest (a.put o.dst v') w'):wpList P ops Q (o::rest) a w:=by
 obtain ⟨i,hi,hz,hsize,hby⟩:=info_parts iX;have hlt:=hown.lt;have rE:n+m≤maxLen:=by unfold maxLen;omega
 cases xa with
 |none=>
  obtain ⟨rfl,rfl⟩:=hnil rfl;have hn:news= []:=List.eq_nil_of_length_eq_zero (by simpa using hl);subst hn;refine wpList_append_own_none hgd s x t ho base e i size ht hi v n xs hs hown hx ?_;exact h v w (ae (by simpa using hown)) (fun _ h _=>h) (fun _ _ _=>rfl) (Nat.le_refl _) (.inl rfl)
 |some ad=>
  have kZ: ∀j u,news[j]?=some u→w.cell? (ad.add j)=some u:=by
   intro j u hu;by_cases hm:0<m
   ·obtain ⟨TE,e',hh⟩:=hnews hm;cases e';exact hh j u hu
   ·have:news= []:=List.eq_nil_of_length_eq_zero (by rw [hl];have:m=0:=by omega
                                                     simp [this])
    rw [this]at hu;simp at hu
  refine wpList_plain hgd fun K hK=> ?_;obtain ⟨v',w',hr,h2,h3,h4,h5⟩:=gD (P:=P) w base t o.type e i z size bytes ht hi hz hsize hby hzs hsz v n xs hown ad m c news hl kZ h1 rE hb hbase;unfold Oper.wp execOp;simp only [ho,resolve,invoke,builtin,Sem.run_bind,Sem.run_pure,Result.andThen_ok,List.map_toArray,List.map_cons,List.map_nil,hs,hx,hr];refine hK _ _ (h v' w' h2 (fun a0 ha hb0=>⟨ha.below.trans ⟨h3.os,h3.tape,h3.output,h3.size,fun k hk=>h3.block k (by have:=ha.size;omega) (fun e'=>by have:=hlt k e'.symm;omega)⟩,Nat.le_trans ha.drawn h4⟩) h3.block h3.size h5)
end
theorem aA.kn {w:World} {a:Option Addr} {c:Nat} {l:List Int} (h:bP w 1 a c (l.map fun x=> [i64 x])) (hl:fp l):aA w a c l:=
 ⟨by have:=h.le;rw [List.length_map]at this;exact this,h.cap,fun i hi=>by
   obtain ⟨b,o,ha,hc⟩:=h.cell i (by simpa using hi);refine ⟨b,o,ha,?_⟩;have:=hc 0 (by simp);simpa using this,fun i hi=>by
   have:=hl l[i] (List.getElem_mem hi);unfold br at this;omega⟩
theorem aA.two (W:World) (x y:Int) (hx:br x) (hy:br y):aA (W.alloc (.cells #[i64 x,i64 y] 3)) (some ⟨W.heap.size,0,none⟩) 2 [x,y]:=
 ⟨by simp,by omega,fun i hi=>⟨W.heap.size,0,rfl,by
     have h0:i=0∨i=1:=by simp at hi;omega
     rcases h0 with h0|h0<;>subst h0
     ·exact (aG.alloc W 3 [i64 x,i64 y]).cell 0
     ·exact (aG.alloc W 3 [i64 x,i64 y]).cell 1⟩,fun i hi=>by
     have h0:i=0∨i=1:=by simp at hi;omega
     unfold br at hx hy;rcases h0 with h0|h0<;>subst h0<;>simp<;>omega⟩
theorem TX (W:World) (x y lo hi:Int) (hx:br x) (hy:br y):
 Calls Tryz.prog 56 #[i64 lo,i64 hi,.slice (some ⟨W.heap.size,0,none⟩) 2 2] (W.alloc (.cells #[i64 x,i64 y] 3)) fun e w'=>e= .returned (.bool (aY lo hi [x,y]))∧w'=W.alloc (.cells #[i64 x,i64 y] 3):=
 gU _ lo hi _ 2 [x,y] (aA.two W x y hx hy)
theorem vJ {n:Nat} (h:n≤9223372036854775807):br (n:Int):=by unfold br;omega
def uD (m:bH):Bool:=aY 0 1048576 [m.up,m.down]
theorem AR (l:List bH) (i:Nat) (h:i<l.length):(l.take (i+1)).all uD=((l.take i).all uD&&uD l[i]):=by
 rw [List.take_succ_eq_append_getElem h,List.all_append];simp
theorem aA.fS {w w':World} {a:Option Addr} {c K:Nat} {l:List Int} (h:aA w a c l) (x:ak K w w') (hb: ∀p,a=some p→p.block≠K):aA w' a c l:=
 ⟨h.le,h.cap,fun i hi=>by
   obtain ⟨b,o,ha,hc⟩:=h.cell i hi;exact ⟨b,o,ha,aR hc x (show b≠K from hb _ ha)⟩,h.OT⟩
def nk (c:aq) (x:bI) (prev:List ByteArray) (e:Int):Int:=nd (nd (nd (nd (nd (nd (nd (nd (eG e x.name prev) (aY 1 2 [(x.lines.length:Int)]) 4) (aY 0 ((c.lines.length:Int)-1) x.lines) 12) (gG x.lines) 11) (x.bJ||decide (x.moves.length=0)) 16) (decide ((x.moves.length:Int)≤16)) 8) (aY 0 ((c.aj.length:Int)-1) (x.moves.map bH.unit)) 12) (gG (x.moves.map bH.unit)) 11) (x.moves.all uD) 3
set_option maxHeartbeats 4000000 in
set_option maxRecDepth 100000 in
theorem AU (w0 V:World) (K:Nat) (c:aq) (e:Int) (i:Nat) (hi:i<c.outs.length) (hK:w0.heap.size≤K) (hV:Ext w0 V) (hc:aT w0 c) (hn:c.outs.length≤1000000) (Pg: ∀o∈c.outs,o.moves.length≤5900000000000) (h:FE V K e):
 Calls Tryz.prog 61 #[.pointer (some ⟨K,0,none⟩),.agg (C8 c),i64 i] V fun e' w'=>rG V K (nk c c.outs[i] ((c.outs.take i).map bI.name) e) e' w':=by
 try unfold C8
 have vB:=h.lt;have hr:=hc.outs;have hle:=hr.le;have di:=hr.cap
 rw [List.length_map]at hle;obtain ⟨b,o,ha,c0,c1,c2,c3⟩:=(hr.ext hV).outs i hi;have aP:=hc.out c.outs[i] (List.getElem_mem hi);have wB:=ae (oV c);obtain ⟨prev,iG⟩: ∃prev,prev=(c.outs.take i).map bI.name:=⟨_,rfl⟩;obtain ⟨x,eU⟩: ∃x,x=c.outs[i]:=⟨_,rfl⟩;have qa:Hid (∃h:i<(c.outs.map bI.name).length,(c.outs.map bI.name)[i]=x.name∧(c.outs.map bI.name).take i=prev):=⟨by simpa using hi,by subst eU;simp,by subst iG;rw [List.map_take]⟩;have sZ:Hid ((c.outs.map bI.name).length≤1000000):=by(show _≤_;rw [List.length_map];exact hn)
 rw [←iG,←eU];rw [←eU]at c0 c1 c2 c3 aP;clear iG hn;have kW:=ae aP.2.1;have SP:=ae aP.2.2.1;have TY:=ae aP.2.2.2
 have F5:x.lines.length≤9223372036854775807:=Nat.le_trans aP.2.1.le aP.2.1.cap;have SQ:=ae (vJ F5);have Ph:=ae F5;have rO:c.lines.length≤9223372036854775807:=by have:=hc.lines.le;have:=hc.lines.cap;rw [List.length_map]at*;omega
 have jV:c.aj.length≤9223372036854775807:=by have:=hc.aj.le;have:=hc.aj.cap;rw [List.length_map]at*;omega
 have HWL:Hid (IntKind.i64.wrap ((c.lines.length:Int)-1)=(c.lines.length:Int)-1):=by show _=_;rw [IntKind.wrap_i64];omega
 have HWU:Hid (IntKind.i64.wrap ((c.aj.length:Int)-1)=(c.aj.length:Int)-1):=by show _=_;rw [IntKind.wrap_i64];omega
 have HL1:=ae rO;have KU:=ae jV
 have Xs:Hid (x.moves.length≤5900000000000):=by show _≤_;rw [eU];exact Pg _ (List.getElem_mem hi)
 have SR:Hid (x.moves.length≤9223372036854775807):=Nat.le_trans Xs.out (by decide)
 have HMU:Hid (fp (x.moves.map bH.unit)):=fun z hz=>by
  obtain ⟨m,hm,rfl⟩:=List.mem_map.1 hz;exact aP.2.2.2 m hm m.unit (by simp)
 clear F5 rO jV Pg eU;have EH:=ae aP.1;have HV:=ae hV;have dB:=ae hc;have HH:=ae h;have bB:=ae hK
 have fM:(0:Int)≤(i:Int):=by omega
 have fH:(i:Int)<(c.outs.length:Int):=by omega
 unfold nk;have j3:=ae ha;clear hr h hc hV hK aP ha;go_enter Tryz.func61,Tryz.ntmps61
 go_upto_region 1 with fail
 obtain ⟨W0,hW,x0,Z0,A0⟩:=aB V 32 c.cells;rw [show V.alloc (.cells (C8 c) 32)=W0 from hW.symm];clear hW;obtain ⟨B,hB⟩: ∃B,B=V.heap.size:=⟨_,rfl⟩;rw [←hB]at A0⊢;have bL:B≠K:=by omega
 obtain ⟨-,-,k2,k3,k4,k5,k6,k7⟩:=aq.at A0;rw [j3.out]at k7;have c0:=ai x0 c0;have c1:=ai x0 c1;have c2:=ai x0 c2;have c3:=ai x0 c3;have ju:=ae A0;have X0:=ae x0;have kr:=ae hB
 clear A0 Z0 x0 hB k2 k3 k4 k5 k6;go_upto_region 2 with fail
 obtain ⟨W1,hW1,x1,Z1,A1⟩:=aB W0 87 x.cells;rw [show W0.alloc (.cells #[.string x.name,.slice x.la x.lines.length x.lc,.bool x.bJ,.slice x.ma x.moves.length x.mc] 87)=W1 from hW1.symm];clear hW1 k7 c0 c1 c2 c3;obtain ⟨X,hX⟩: ∃X,X=W0.heap.size:=⟨_,rfl⟩;rw [←hX]at A1⊢;have f_:X≠K:=by have:=X0.out.size;omega
 have HF:=ae ((HH.out.ext X0.out).ext x1);have HX:=ae A1;have HB:=ae (ju.out.ext x1);have bV:Hid (ak K V W1):=(X0.out.trans x1).but K;have bw:Hid (Ext w0 W1):=(HV.out.trans X0.out).trans x1;clear hX A1 Z1 x1 HH ju X0 kr j3 fM fH;obtain ⟨e1,he⟩: ∃e',e'=eG e x.name prev:=⟨_,rfl⟩;have kt:=ae he;clear he;go_upto_region 2 with fail
 go_cut [] (fun wx=>FE wx K e1∧ak K W1 wx∧aG wx B 32 c.cells∧aG wx X 87 x.cells)
 case first=>
  as_aux_lemma=>
   obtain ⟨k0,k1,k2,k3,k4,k5,k6,k7⟩:=aq.at HB.out;go_wp2_with fail
   refine (kG w0 W1 K c _ 6 i prev _ x.name wB.out (by decide) qa.out sZ.out bB.out bw.out dB.out EH.out HF.out).mono ?_;rintro e w2 ⟨rfl,hf,hx⟩;have bO:ak K W1 w2:=hx;have hf':FE w2 K e1:=by(rw [kt.out];exact hf)
   have hA':=HX.out.but hx f_;have aM:=HB.out.but hx bL
   have HR:=ae (And.intro hf' (And.intro bO (And.intro aM hA')));clear hf hx hf' bO hA' aM k0 k1 k2 k3 k4 k5 k6 k7;go_wp2_with fail
   go_meet
   exact HR.out
 case rest=>
  obtain ⟨hF,hx,aM,hA'⟩:=hcut;generalize wc=V1 at*;have HF:=ae hF;have HB:=ae aM;have HX:=ae hA'
  have bV:=ae (bV.out.trans hx);have bw:=ae (hx.ext bw.out bB.out)
  clear hF hx aM hA';obtain ⟨e2,he⟩: ∃e',e'=nd e1 (aY 1 2 [(x.lines.length:Int)]) 4:=⟨_,rfl⟩;have j4:=ae he;clear he;go_upto_region 3 with fail
  go_cut [] (fun wx=>FE wx K e2∧ak K V1 wx∧aG wx B 32 c.cells∧aG wx X 87 x.cells)
  case first=>
   as_aux_lemma=>
    have c1:=HX.out.cl 1 (.slice x.la x.lines.length x.lc) rfl;have N7:=Ph.out;go_wp2_with fail
    refine (gh V1 (x.lines.length:Int) 1 2 SQ.out).mono ?_;rintro e w1 ⟨rfl,rfl⟩;go_wp2_with fail
    refine (aU _ K _ _ _ _ _ _ (HF.out.alloc _)).mono ?_;rintro e w2 ⟨rfl,hf,hx⟩;have bO:ak K V1 w2:=((ak.refl K V1).alloc' _).trans hx;have hf':FE w2 K e2:=by(rw [j4.out];exact hf)
    have hA':=(HX.out.alloc' _).but hx f_;have aM:=(HB.out.alloc' _).but hx bL
    have HR:=ae (And.intro hf' (And.intro bO (And.intro aM hA')));clear hf hx hf' bO hA' aM c1;go_wp2_with fail
    go_meet
    exact HR.out
  case rest=>
   obtain ⟨hF,hx,aM,hA'⟩:=hcut;generalize wc=V2 at*;have HF:=ae hF;have HB:=ae aM;have HX:=ae hA'
   have bV:=ae (bV.out.trans hx);have bw:=ae (hx.ext bw.out bB.out)
   clear hF hx aM hA';obtain ⟨e3,he⟩: ∃e',e'=nd e2 (aY 0 ((c.lines.length:Int)-1) x.lines) 12:=⟨_,rfl⟩;have nc:=ae he;clear he;go_upto_region 4 with fail
   go_cut [] (fun wx=>FE wx K e3∧ak K V2 wx∧aG wx B 32 c.cells∧aG wx X 87 x.cells)
   case first=>
    as_aux_lemma=>
     obtain ⟨k0,k1,k2,k3,k4,k5,k6,k7⟩:=aq.at HB.out;have c1:=HX.out.cl 1 (.slice x.la x.lines.length x.lc) rfl;have Xt:=HWL.out;have KV:=HL1.out
     go_wp2_with fail
     refine (gU _ _ _ x.la x.lc x.lines (kW.out.ext bw.out)).mono ?_;rintro e w1 ⟨rfl,eE⟩;rw [eE];clear eE;go_wp2_with fail
     refine (aU _ K _ _ _ _ _ _ HF.out).mono ?_;rintro e w2 ⟨rfl,hf,hx⟩;have bO:ak K V2 w2:=hx;have hf':FE w2 K e3:=by(rw [nc.out];exact hf)
     have hA':=HX.out.but hx f_;have aM:=HB.out.but hx bL
     have HR:=ae (And.intro hf' (And.intro bO (And.intro aM hA')));clear hf hx hf' bO hA' aM k0 k1 k2 k3 k4 k5 k6 k7 c1;go_wp2_with fail
     go_meet
     exact HR.out
   case rest=>
    obtain ⟨hF,hx,aM,hA'⟩:=hcut;generalize wc=V3 at*;have HF:=ae hF;have HB:=ae aM;have HX:=ae hA'
    have bV:=ae (bV.out.trans hx);have bw:=ae (hx.ext bw.out bB.out)
    clear hF hx aM hA';obtain ⟨e4,he⟩: ∃e',e'=nd e3 (gG x.lines) 11:=⟨_,rfl⟩;have ng:=ae he;clear he;go_upto_region 5 with fail
    go_cut [] (fun wx=>FE wx K e4∧ak K V3 wx∧aG wx B 32 c.cells∧aG wx X 87 x.cells)
    case first=>
     as_aux_lemma=>
      have c1:=HX.out.cl 1 (.slice x.la x.lines.length x.lc) rfl;go_wp2_with fail
      refine (om _ x.la x.lc x.lines (kW.out.ext bw.out)).mono ?_;rintro e w1 ⟨rfl,x1⟩;have c1:=ai x1 c1;go_wp2_with fail
      refine (aU _ K _ _ _ _ _ _ (HF.out.ext x1)).mono ?_;rintro e w2 ⟨rfl,hf,hx⟩;have bO:ak K V3 w2:=(x1.but K).trans hx;have hf':FE w2 K e4:=by(rw [ng.out];exact hf)
      have hA':=(HX.out.ext x1).but hx f_;have aM:=(HB.out.ext x1).but hx bL
      have HR:=ae (And.intro hf' (And.intro bO (And.intro aM hA')));clear hf hx hf' bO hA' aM c1;go_wp2_with fail
      go_meet
      exact HR.out
    case rest=>
     obtain ⟨hF,hx,aM,hA'⟩:=hcut;generalize wc=V4 at*;have HF:=ae hF;have HB:=ae aM;have HX:=ae hA'
     have bV:=ae (bV.out.trans hx);have bw:=ae (hx.ext bw.out bB.out)
     clear hF hx aM hA'
     as_aux_lemma=>
      obtain ⟨e5,he⟩: ∃e',e'=nd e4 (x.bJ||decide (x.moves.length=0)) 16:=⟨_,rfl⟩;have qc:=ae he;clear he;go_upto_region 6 with fail
      go_cut [] (fun wx=>FE wx K e5∧ak K V4 wx∧aG wx B 32 c.cells∧aG wx X 87 x.cells)
      case first=>
       as_aux_lemma=>
        have c2:=HX.out.cl 2 (.bool x.bJ) rfl;have c3:=HX.out.cl 3 (.slice x.ma x.moves.length x.mc) rfl;have hz:Hid (((x.moves.length:Int)==0)=decide (x.moves.length=0)):=by(show _=_;rw [Bool.eq_iff_iff];simp;try omega)
        rcases Bool.eq_false_or_eq_true x.bJ with hp|hp
        ·have HP:=ae hp
         clear hz;go_wp2_with fail
         refine (aU _ K _ _ _ _ _ _ HF.out).mono ?_;rintro e w2 ⟨rfl,hf,hx⟩;have bO:ak K V4 w2:=hx;have hf':FE w2 K e5:=by(rw [qc.out];rw [HP.out,Bool.true_or];exact hf)
         have hA':=HX.out.but hx f_;have aM:=HB.out.but hx bL
         have HR:=ae (And.intro hf' (And.intro bO (And.intro aM hA')));clear hf hx hf' bO hA' aM c2 c3;go_wp2_with fail
         go_meet
         exact HR.out
        ·have HP:=ae hp
         have hq:((x.moves.length:Int)==0)=decide (x.moves.length=0):=hz.out;clear hz;go_wp2_with fail
         refine (aU _ K _ _ _ _ _ _ HF.out).mono ?_;rintro e w2 ⟨rfl,hf,hx⟩;have bO:ak K V4 w2:=hx;have hf':FE w2 K e5:=by(rw [qc.out];rw [HP.out,Bool.false_or];simpa using hf)
         have hA':=HX.out.but hx f_;have aM:=HB.out.but hx bL
         have HR:=ae (And.intro hf' (And.intro bO (And.intro aM hA')));clear hf hx hf' bO hA' aM c2 c3;go_wp2_with fail
         go_meet
         exact HR.out
      case rest=>
       obtain ⟨hF,hx,aM,hA'⟩:=hcut;generalize wc=V5 at*;have HF:=ae hF;have HB:=ae aM;have HX:=ae hA'
       have bV:=ae (bV.out.trans hx);have bw:=ae (hx.ext bw.out bB.out)
       clear hF hx aM hA';obtain ⟨e6,he⟩: ∃e',e'=nd e5 (decide ((x.moves.length:Int)≤16)) 8:=⟨_,rfl⟩;have vD:=ae he;clear he;go_upto_region 7 with fail
       go_cut [] (fun wx=>FE wx K e6∧ak K V5 wx∧aG wx B 32 c.cells∧aG wx X 87 x.cells)
       case first=>
        as_aux_lemma=>
         have c3:=HX.out.cl 3 (.slice x.ma x.moves.length x.mc) rfl;have Pj:=SR.out;go_wp2_with fail
         refine (aU _ K _ _ _ _ _ _ HF.out).mono ?_;rintro e w2 ⟨rfl,hf,hx⟩;have bO:ak K V5 w2:=hx;have hf':FE w2 K e6:=by(rw [vD.out];exact hf)
         have hA':=HX.out.but hx f_;have aM:=HB.out.but hx bL
         have HR:=ae (And.intro hf' (And.intro bO (And.intro aM hA')));clear hf hx hf' bO hA' aM c3;go_wp2_with fail
         go_meet
         exact HR.out
       case rest=>
        obtain ⟨hF,hx,aM,hA'⟩:=hcut;generalize wc=V6 at*;have HF:=ae hF;have HB:=ae aM;have HX:=ae hA'
        have bV:=ae (bV.out.trans hx);have bw:=ae (hx.ext bw.out bB.out)
        clear hF hx aM hA';have x3:=HX.out.cl 3 (.slice x.ma x.moves.length x.mc) rfl;have Pj:=SR.out;go_wp2_with fail
        clear x3;go_loopw [8,73] (fun v ii wr=> ∃i:Nat,i≤x.moves.length∧aH wr V6.heap.size 3 1 v ((x.moves.take i).map fun m=> [i64 m.unit])∧Ext V6 wr∧ii= .int .i64 i) (fun _ ii _=>x.moves.length-(intOf ii).toNat)
        case atStart=>exact ⟨0,Nat.zero_le _,aH.nil _ _ _ _,Ext.refl _,rfl⟩
        case round=>
         obtain ⟨i,hi,hown,hE,rfl⟩:=hrel;have HO:=ae hown;clear hown;by_cases hlt:i<x.moves.length
         ·obtain ⟨b,o,ha,m0,m1,m2⟩:=((SP.out.ext bw.out).ext hE).moves i hlt
          have HST:Hid ((x.moves.take (i+1)).map (fun m=> [i64 m.unit])=(x.moves.take i).map (fun m=> [i64 m.unit])++ [[i64 x.moves[i].unit]]):=by
             show _=_;rw [List.take_succ_eq_append_getElem hlt,List.map_append];rfl
          have HLEN:Hid (((x.moves.take i).map fun m=> [i64 m.unit]).length=i):=by show _=_;simp;omega
          generalize (x.moves.take i).map (fun m=> [i64 m.unit])=rows at*;obtain ⟨g,hg⟩: ∃g,g=x.moves[i]:=⟨_,rfl⟩;rw [←hg]at m0 m1 m2 HST;have fM:(0:Int)≤(i:Int):=by omega
          have fH:(i:Int)<(x.moves.length:Int):=by omega
          have j3:=ae ha;have se:=hE.size;have HE:=ae hE
          have HOW:Hid (wr.ownsRow V6.heap.size 3 1 u8 i rows.flatten):=by
             have h5:=HO.out.own;rw [HLEN.out]at h5;exact h5
          clear ha hg hE;rw [j3.out];go_upto_region 12 with fail
          obtain ⟨W2,hW2,x2,Z2,A2⟩:=aB wr 140 g.cells;rw [show wr.alloc (.cells #[i64 g.unit,i64 g.up,i64 g.down] 140)=W2 from hW2.symm];clear hW2;obtain ⟨E,j5⟩: ∃E,E=wr.heap.size:=⟨_,rfl⟩;rw [←j5]at A2⊢;have z0:W2.cell? ⟨E,0,none⟩=some (i64 g.unit):=(A2.cell 0).trans rfl;have h2s:=x2.size;have dC:=ae x2;clear j5 Z2 A2 m0 m1 m2 x2;go_wp2_with (at_builtin;refine oZ _ rfl (.tmp 77) (.tmp 80) 22 rfl V6.heap.size 3 (.int .i64 0) 1 8 Tryz.underlying22 Tryz.info_int rfl (by decide) u8 i rows.flatten rfl ?c1 (some ⟨W2.heap.size,0,none⟩) 1 1 [i64 g.unit] rfl rfl ?c2 ?c3 ?c4 ?c5 ?c7 ?c6 ?_;rotate_right;intro v1 w5 ho he hb hz hv)
          case c1=>exact bG (bG HOW.out dC.out) ((Ext.refl _).alloc _)
          case c2=>exact fun _=>⟨_,rfl,cC W2 3 [i64 g.unit]⟩
          case c3=>intro u hu;rw [List.mem_singleton]at hu;subst hu;rfl
          case c4=>intro e;cases e
          case c5=>omega
          case c7=>have:=Xs.out;omega
          case c6=>simp;omega
          have x5:Ext V6 w5:=he.out V6 ((HE.out.trans dC.out).alloc _) (Nat.le_refl _);have iC:=HO.out.snoc (w':=w5) (v':=v1) (r:= [i64 g.unit]) rfl (by rw [HLEN.out];exact ho.out);rw [←HST.out]at iC;exact ⟨⟨i+1,by omega,iC,x5,by go_num⟩,by simp only [intOf];omega⟩
         ·obtain rfl:i=x.moves.length:=by omega
          rw [List.take_length]at HO;obtain ⟨ua,uc,rfl,hS,jU⟩:=HO.out.recs (by decide);have e1:(x.moves.map fun m=> [i64 m.unit])=(x.moves.map bH.unit).map fun z=> [i64 z]:=by rw [List.map_map];rfl
          rw [e1]at hS;have TZ:aA wr ua uc (x.moves.map bH.unit):=aA.kn hS HMU.out;obtain ⟨us,Dv⟩: ∃us,us=x.moves.map bH.unit:=⟨_,rfl⟩;have Cp:=ae Dv;rw [←Dv]at TZ;have jV:(x.moves.map fun m=> [i64 m.unit]).length=us.length:=by rw [Dv,List.length_map,List.length_map]
          rw [jV]
          have Xu: ∀p,ua=some p→p.block≠K:=fun p hp=>by
             have h1:=jU p hp;have h2:=HF.out.lt
             omega
          have KW:=ae Xu;have sV:=ae (HF.out.ext hE);have AO:=ae (HB.out.ext hE);have eK:=ae (HX.out.ext hE)
          have yG:=ae (bw.out.trans hE);have yH:=ae (bV.out.trans (hE.but K));have Jk:=ae TZ
          clear HF HB HX bw bV;have HF:=sV;have HB:=AO;have HX:=eK;have bw:=yG;have bV:=yH
          clear sV AO eK yG yH hS e1 HO TZ Dv hE jV Pj hi hlt Xu jU;obtain ⟨-,-,-,-,k4,-,-,-⟩:=aq.at HB.out;have Xv:=HWU.out;have hl2:=KU.out
          obtain ⟨e7,he⟩: ∃e',e'=nd e6 (aY 0 ((c.aj.length:Int)-1) us) 12:=⟨_,rfl⟩;have oL:=ae he;clear he;go_wp2_with fail
          refine (gU _ _ _ ua uc us Jk.out).mono ?_;rintro e5 w1 ⟨rfl,rfl⟩;clear Xv hl2;go_wp2_with fail
          refine (aU _ K _ _ _ _ _ _ HF.out).mono ?_;rintro e5 W6 ⟨rfl,Jf,eT⟩;rw [←oL.out]at Jf;have Pk:Hid (aA W6 ua uc us):=Jk.out.fS eT KW.out;have Xw:=ae Jf;have AV:Hid (aG W6 X 87 x.cells):=HX.out.but eT f_
          have Pm:=ae (bV.out.trans eT);obtain ⟨e8,he⟩: ∃e',e'=nd e7 (gG us) 11:=⟨_,rfl⟩;have vE:=ae he;clear he Jf eT k4 HF HX bV bw HB Jk;go_wp2_with fail
          refine (om _ ua uc us Pk.out).mono ?_;rintro e5 w7 ⟨rfl,x7⟩;go_wp2_with fail
          refine (aU _ K _ _ _ _ _ _ (Xw.out.ext x7)).mono ?_;rintro e5 W8 ⟨rfl,T4,fF⟩;rw [←vE.out]at T4;have HF:=ae T4;have HX:Hid (aG W8 X 87 x.cells):=(AV.out.ext x7).but fF f_
          have bV:=ae ((Pm.out.trans (x7.but K)).trans fF);clear T4 fF x7 Xw AV Pm Pk;have x3:=HX.out.cl 3 (.slice x.ma x.moves.length x.mc) rfl;have Pj:=SR.out;go_wp2_with fail
          clear x3 Pj;go_loopw [102] (fun ii wr=> ∃i:Nat,i≤x.moves.length∧FE wr K (nd e8 ((x.moves.take i).all uD) 3)∧ak K V wr∧ii= .int .i64 i) (fun ii _=>x.moves.length-(intOf ii).toNat)
          case atStart=>exact ⟨0,Nat.zero_le _,by simpa [bk]using HF.out,bV.out,rfl⟩
          case round=>
             obtain ⟨i,hi,hF,hX,rfl⟩:=hrel;clear HF bV HX;have Pj:=SR.out;by_cases hlt:i<x.moves.length
             ·have hE:=hX.ext HV.out bB.out
              obtain ⟨b,o,ha,m0,m1,m2⟩:=(SP.out.ext hE).moves i hlt;have HT:=ae (AR x.moves i hlt);have FU:=TY.out x.moves[i] (List.getElem_mem hlt);generalize (x.moves.take i).all uD=q at*;obtain ⟨g,hg⟩: ∃g,g=x.moves[i]:=⟨_,rfl⟩;rw [←hg]at m0 m1 m2 HT FU;have T5:=ae (FU g.up (by simp));have T6:=ae (FU g.down (by simp))
              have HF:=ae hF;have HX:=ae hX;have SM:=ae (lM e8 q (uD g) 3 (by decide))
              have j3:=ae ha;have fM:(0:Int)≤(i:Int):=by omega
              have fH:(i:Int)<(x.moves.length:Int):=by omega
              clear hF hX hE hg FU ha;rw [j3.out];go_upto_region 19 with fail
              obtain ⟨W2,hW2,x2,Z2,A2⟩:=aB wr 140 g.cells;rw [show wr.alloc (.cells #[i64 g.unit,i64 g.up,i64 g.down] 140)=W2 from hW2.symm];clear hW2;obtain ⟨E,j5⟩: ∃E,E=wr.heap.size:=⟨_,rfl⟩;rw [←j5]at A2⊢;have z1:W2.cell? ⟨E,1,none⟩=some (i64 g.up):=(A2.cell 1).trans rfl;have z2:W2.cell? ⟨E,2,none⟩=some (i64 g.down):=(A2.cell 2).trans rfl;have EL:=ae (HF.out.ext x2);have dC:Hid (ak K V W2):=HX.out.trans (x2.but K)
              clear j5 Z2 A2 m0 m1 m2 x2;go_wp2_with fail
              refine (TX W2 g.up g.down 0 1048576 T5.out T6.out).mono ?_;rintro e6 w1 ⟨rfl,rfl⟩;go_wp2_with fail
              refine (aU _ K _ _ _ _ _ _ (EL.out.alloc _)).mono ?_;rintro e6 W4 ⟨rfl,Fs,fN⟩;have KJ:=ae Fs;have nK:Hid (ak K V W4):=(dC.out.alloc' _).trans fN;clear Fs fN z1 z2;go_wp2_with fail
              exact ⟨⟨i+1,by omega,by rw [HT.out,←SM.out];exact KJ.out,nK.out,by go_num⟩,by simp only [intOf];omega⟩
             ·obtain rfl:i=x.moves.length:=by omega
              rw [List.take_length]at hF;have HF:=ae hF;have HX:=ae hX
              clear hF hX;go_wp2_with fail
              exact bodyPost_end (v:= .tuple #[]) (by simp [results,Tryz.results61,go_sem]) rfl ⟨rfl,by rw [←Cp.out,←kt.out,←j4.out,←nc.out,←ng.out,←qc.out,←vD.out,←oL.out,←vE.out];exact HF.out,HX.out⟩
structure nN (c:aq):Prop where
 au:c.au.length≤1000000
 lines:c.lines.length≤1000000
 aj:c.aj.length≤1000000
 stores:c.stores.length≤1000000
 aN:c.aN.length≤1000000
 outs:c.outs.length≤1000000
 moves: ∀o∈c.outs,o.moves.length≤5900000000000
theorem nN.names {c:aq} (h:nN c) (k:Int):(df c k).length≤1000000:=by
 unfold df;have h1:=h.au;have h2:=h.lines;have h3:=h.aj;have h4:=h.stores;have h5:=h.aN;have h6:=h.outs
 repeat' split
 all_goals simp
 all_goals assumption
def iI (c:aq) (e:Int) (n:Nat):Int:=(List.range n).foldl (fun e (j:Nat)=>nd e (decide (((df c ((j:Int)+2)).length:Int)≤jE ((j:Int)+2))) 8) e
theorem ep (c:aq) (e:Int) (n:Nat):iI c e (n+1)=nd (iI c e n) (decide (((df c ((n:Int)+2)).length:Int)≤jE ((n:Int)+2))) 8:=by
 unfold iI;rw [List.range_succ,List.foldl_append];rfl
def gz (c:aq) (e:Int):Int:=iI c (nd (eo (nd e (aY 1 24 [c.hours]) 3) c c.az 0 1048576) (aY 1 32 [(c.au.length:Int)]) 8) 5
set_option maxHeartbeats 1000000 in
set_option maxRecDepth 100000 in
theorem Dw (w0 V:World) (K:Nat) (c:aq) (e:Int) (hK:w0.heap.size≤K) (hV:Ext w0 V) (hc:aT w0 c) (hl:nN c) (h:FE V K e):
 Calls Tryz.prog 52 #[.pointer (some ⟨K,0,none⟩),.agg (C8 c)] V fun e' w'=>rG V K (gz c e) e' w':=by
 try unfold C8
 have vB:=h.lt;have hbl:c.au.length≤9223372036854775807:=by have:=hl.au;omega
 unfold gz;obtain ⟨e1,Ac⟩: ∃e1,e1=nd e (aY 1 24 [c.hours]) 3:=⟨_,rfl⟩;obtain ⟨e2,IA⟩: ∃e2,e2=eo e1 c c.az 0 1048576:=⟨_,rfl⟩;obtain ⟨e3,KR⟩: ∃e3,e3=nd e2 (aY 1 32 [(c.au.length:Int)]) 8:=⟨_,rfl⟩;rw [←Ac,←IA,←KR];have kt:=ae Ac;have j4:=ae IA;have nc:=ae KR
 have Mc:=ae hc.hours;have IB:=ae (vJ hbl);have xP:=ae hc.az
 have dB:=ae hc;have HV:=ae hV;have bB:=ae hK;have HH:=ae h;have HLE:=ae hl
 clear Ac IA KR hc hV hK h hl;go_enter Tryz.func52,Tryz.ntmps52
 go_upto_region 1 with fail
 obtain ⟨W0,hW,x0,Z0,A0⟩:=aB V 32 c.cells;rw [show V.alloc (.cells (C8 c) 32)=W0 from hW.symm];clear hW;obtain ⟨B,hB⟩: ∃B,B=V.heap.size:=⟨_,rfl⟩;rw [←hB]at A0⊢;have bL:B≠K:=by omega
 have HF:=ae (HH.out.ext x0);have HB:=ae A0;have bV:=ae (x0.but K);have bw:=ae (HV.out.trans x0)
 clear A0 Z0 x0 hB HH;obtain ⟨k0,-⟩:=aq.at HB.out;go_wp2_with fail
 refine (gh W0 c.hours 1 24 Mc.out).mono ?_;rintro e' w1 ⟨rfl,rfl⟩;go_wp2_with fail
 refine (aU _ K _ _ _ _ _ _ (HF.out.alloc _)).mono ?_;rintro e' W1 ⟨rfl,hf,hx⟩;rw [←kt.out]at hf;have sV:=ae hf;have AO:=ae ((HB.out.alloc' _).but hx bL);have bO:=((ak.refl K W0).alloc' _).trans hx
 have yH:=ae (bV.out.trans bO);have yG:=ae (bO.ext bw.out bB.out)
 clear hf hx bO k0 HF HB bV bw;obtain ⟨k0,k1,k2,k3,k4,k5,k6,k7⟩:=aq.at AO.out;go_wp2_with fail
 refine (jC w0 W1 K c _ c.ra c.rc c.az _ _ _ _ _ bB.out yG.out xP.out sV.out).mono ?_;rintro e' W2 ⟨rfl,hf,hx⟩;rw [←j4.out]at hf;have HF:=ae hf;have HB:=ae (AO.out.but hx bL)
 have bV:=ae (yH.out.trans hx);have bw:=ae (hx.ext yG.out bB.out)
 clear hf hx k0 k1 k2 k3 k4 k5 k6 k7 sV AO yH yG;obtain ⟨-,-,k2,-⟩:=aq.at HB.out;go_wp2_with fail
 refine (gh W2 (c.au.length:Int) 1 32 IB.out).mono ?_;rintro e' w1 ⟨rfl,rfl⟩;go_wp2_with fail
 refine (aU _ K _ _ _ _ _ _ (HF.out.alloc _)).mono ?_;rintro e' W3 ⟨rfl,hf,hx⟩;rw [←nc.out]at hf;have sV:=ae hf;have AO:=ae ((HB.out.alloc' _).but hx bL);have bO:=((ak.refl K W2).alloc' _).trans hx
 have yH:=ae (bV.out.trans bO);have yG:=ae (bO.ext bw.out bB.out)
 clear hf hx bO k2 HF HB bV bw hbl;go_wp2_with fail
 go_loopw [4] (fun ii wr=> ∃n:Nat,n≤5∧FE wr K (iI c e3 n)∧ak K V wr∧aG wr B 32 c.cells∧ii= .int .i64 ((n:Int)+2)) (fun ii _=>(7-intOf ii).toNat)
 case atStart=>exact ⟨0,by omega,sV.out,yH.out,AO.out,rfl⟩
 case round=>
  obtain ⟨n,hn,hF,hX,hB,rfl⟩:=hrel;clear sV yH AO yG;by_cases hlt:n<5
  ·have HF:=ae hF;have HX:=ae hX;have HB:=ae hB
   have bw:=ae (hX.ext HV.out bB.out);have HS:=ae (ep c e3 n);obtain ⟨sk,vx⟩: ∃sk,df c ((n:Int)+2)=sk:=⟨_,rfl⟩;have N8:sk.length≤1000000:=by rw [←vx];exact HLE.out.names _
   have Az:=ae vx;rw [vx]at HS;have T7:=ae (fun U=>Fw U ((n:Int)+2) (by omega));have HNA:=ae (vA w0 wr c ((n:Int)+2) sk vx (by omega) bw.out dB.out N8);generalize jE ((n:Int)+2)=mo at*;generalize iI c e3 n=e4 at*;obtain ⟨k0,k1,k2,k3,k4,k5,k6,k7⟩:=aq.at hB;clear hF hX hB vx;go_wp2_with fail
   refine HNA.out.mono ?_;rintro e' w1 ⟨a,cap,rfl,hS,x1,-⟩;have eK:=ae x1;clear k0 k1 k2 k3 k4 k5 k6 k7 hS x1;go_wp2_with fail
   refine (T7.out w1).mono ?_;rintro e' w2 ⟨rfl,x2⟩;have dC:=ae (eK.out.trans x2);clear x2;go_wp2_with fail
   refine (aU w2 K _ _ _ _ _ _ (HF.out.ext dC.out)).mono ?_;rintro e' w3 ⟨rfl,hf,hx⟩;rw [←HS.out]at hf;have HR:=ae hf;have o0:=ae ((HB.out.ext dC.out).but hx bL);have qR:=ae (HX.out.trans ((dC.out.but K).trans hx));clear hf hx;go_wp2_with fail
   exact ⟨⟨n+1,by omega,HR.out,qR.out,o0.out,by go_num⟩,by simp only [intOf];omega⟩
  ·obtain rfl:n=5:=by omega
   go_wp2_with fail
   exact bodyPost_end (v:= .tuple #[]) (by simp [results,Tryz.results52,go_sem]) rfl ⟨rfl,hF,hX⟩
def qg (c:aq) (i:Nat):List Int:=(c.lines[i]?.map aS.away).getD []
theorem vK {c:aq} {i:Nat} (h:i<c.lines.length):qg c i=c.lines[i].away:=by unfold qg;rw [List.getElem?_eq_getElem h];rfl
def cJ (c:aq) (h:Int) (n:Nat):List Nat:=(List.range n).filter fun i=> !hasB (qg c i) h
theorem qT (c:aq) (h:Int) (n:Nat):cJ c h (n+1)=if hasB (qg c n) h=true then cJ c h n else cJ c h n++ [n]:=by
 unfold cJ;rw [List.range_succ,List.filter_append];cases q:hasB (qg c n) h<;>simp [q]
theorem gI (c:aq) (h:Int) (n:Nat):(cJ c h n).length≤n:=by
 have:=List.length_filter_le (fun i=> !hasB (qg c i) h) (List.range n);rw [List.length_range]at this;exact this
theorem iJ (c:aq) (h:Int) (n:Nat): ∀i∈cJ c h n,i<n:=fun i hi=>List.mem_range.1 (List.mem_filter.1 hi).1
def eV (l:List Nat):List (List Value):=l.map fun(j:Nat)=> [i64 (j:Int)]
theorem lq (l:List Nat) (n:Nat):eV (l++ [n])=eV l++ [[i64 (n:Int)]]:=by simp [eV]
theorem dD (l:List Nat):(eV l).length=l.length:=by simp [eV]
def aC (l:List Nat):List Int:=l.map fun(j:Nat)=>(j:Int)
theorem lr (l:List Nat):eV l=(aC l).map fun z=> [i64 z]:=by simp [eV,aC]
theorem mF {l:List Nat} {n:Nat} (h: ∀i∈l,i<n) (hn:n≤9223372036854775807):fp (aC l):=fun z hz=>by
 obtain ⟨j,hj,rfl⟩:=List.mem_map.1 hz;have:=h j hj;unfold br;omega
theorem aK (l:List Nat):(aC l).length=l.length:=by simp [aC]
set_option maxHeartbeats 1000000 in
set_option maxRecDepth 100000 in
theorem uE (w0 V:World) (c:aq) (h:Int) (hV:Ext w0 V) (hc:aT w0 c) (hn:c.lines.length≤1000000):
 Calls Tryz.prog 103 #[.agg (C8 c),i64 h] V fun e w'=> ∃a cap,e= .returned (.slice a (cJ c h c.lines.length).length cap)∧aA w' a cap (aC (cJ c h c.lines.length))∧Ext V w'∧Fr V.heap.size a:=by
 try unfold C8
 have hr:=hc.lines;have hle:=hr.le;have di:=hr.cap
 rw [List.length_map]at hle;have HR:=ae hr;have HV:=ae hV;have HN:=ae hn;have KX:=ae hc.line
 clear hc hr hV hn;go_enter Tryz.func103,Tryz.ntmps103
 go_upto_region 1 with fail
 obtain ⟨W,hW,x0,Z0,A0⟩:=aB V 32 c.cells;rw [show V.alloc (.cells (C8 c) 32)=W from hW.symm];clear hW;have HA:=ae A0;have HX:=ae x0
 obtain ⟨B,hB⟩: ∃B,B=V.heap.size:=⟨_,rfl⟩;rw [←hB]at HA⊢;clear A0 x0 Z0;have kr:=ae hB;clear hB;go_wp2_with fail
 go_loopw [5,6] (fun v ii wr=> ∃i:Nat,i≤c.lines.length∧aH wr W.heap.size 3 1 v (eV (cJ c h i))∧Ext W wr∧ii= .int .i64 i) (fun _ ii _=>c.lines.length-(intOf ii).toNat)
 case atStart=>exact ⟨0,Nat.zero_le _,aH.nil _ _ _ _,Ext.refl _,rfl⟩
 case round=>
  obtain ⟨i,hi,hown,hE,rfl⟩:=hrel;have HO:=ae hown;obtain ⟨-,-,-,k3,-⟩:=aq.at (HA.out.ext hE);clear hown;by_cases hlt:i<c.lines.length
  ·obtain ⟨b,o,ha,-,-,-,-,-,-,-,-,-,-,-,c11⟩:=((HR.out.ext HV.out).ext (HX.out.trans hE)).lines i hlt
   have N9:=(KX.out c.lines[i] (List.getElem_mem hlt)).2.1;have HST:=ae (qT c h i);have gO:=ae (wA wr _ _ _ h ((N9.ext HV.out).ext (HX.out.trans hE)));rw [vK hlt]at HST;generalize c.lines[i]=x at*;have HLEN:=ae (gI c h i);generalize cJ c h i=l at*;rw [ha]at k3;have fM:(0:Int)≤(i:Int):=by omega
   have fH:(i:Int)<(c.lines.length:Int):=by omega
   have HE:=ae hE;have se:=hE.size
   clear ha hE N9;rcases Bool.eq_false_or_eq_true (hasB x.away h)with hq|hq
   ·rw [hq]at gO HST
    clear hq;go_wp2_with fail
    refine gO.out.mono ?_;rintro e w1 ⟨rfl,eE⟩;rw [eE];clear eE
    go_wp2_with fail
    exact ⟨⟨i+1,by omega,by rw [HST.out];simpa using HO.out,HE.out,by go_num⟩,by simp only [intOf];omega⟩
   ·rw [hq]at gO HST
    clear hq
    have HOW:Hid (wr.ownsRow W.heap.size 3 1 u5 l.length (eV l).flatten):=by
     have h5:=HO.out.own;rw [dD]at h5;exact h5
    go_wp2_with fail
    refine gO.out.mono ?_;rintro e w1 ⟨rfl,eE⟩;rw [eE];clear eE
    go_wp2_with (at_builtin;refine aV _ rfl (.tmp 23) (.tmp 25) 22 rfl W.heap.size 3 (.int .i64 0) 1 8 Tryz.underlying22 Tryz.info_int rfl (by decide) u5 l.length (eV l).flatten rfl ?c1 (some ⟨wr.heap.size,0,none⟩) 1 1 [i64 (i:Int)] rfl rfl ?c2 ?c3 ?c4 ?c5 (by decide) ?c6 ?_;rotate_right;intro v1 w5 ho he hb hz hv)
    case c1=>exact bG HOW.out ((Ext.refl _).alloc _)
    case c2=>exact fun _=>⟨_,rfl,cC wr 3 [i64 (i:Int)]⟩
    case c3=>intro u hu;rw [List.mem_singleton]at hu;subst hu;rfl
    case c4=>intro e;cases e
    case c5=>have:=HN.out;have:=HLEN.out;omega
    case c6=>have:=se;simp;omega
    have x5:Ext W w5:=he.out W (HE.out.alloc _) (Nat.le_refl _);have iC:=HO.out.snoc (w':=w5) (v':=v1) (r:= [i64 (i:Int)]) rfl (by rw [dD];exact ho.out);rw [←lq]at iC;exact ⟨⟨i+1,by omega,by rw [HST.out];simpa using iC,x5,by go_num⟩,by simp only [intOf];omega⟩
  ·obtain rfl:i=c.lines.length:=by omega
   obtain ⟨a,cap,rfl,hS,jU⟩:=HO.out.recs (by decide);rw [dD];rw [lr]at hS;have HI:=ae (aA.kn hS (mF (iJ c h _) (by omega)));have sj:=ae jU;clear hS jU HO;go_wp2_with fail
   go_ret;exact ⟨a,cap,rfl,HI.out,HX.out.trans hE,sj.out.mono HX.out.size⟩
def uF (l:List Int) (n:Nat):Nat:=(List.range n).countP fun b=>eF l b==(b:Int)
theorem Dx (l:List Int) (n:Nat):uF l (n+1)=uF l n+if(eF l n==(n:Int))=true then 1 else 0:=by
 unfold uF;rw [List.range_succ,List.countP_append,List.countP_singleton]
theorem Jl (l:List Int) (n:Nat):uF l n≤n:=by
 unfold uF;have:=List.countP_le_length (p:=fun b:Nat=>eF l b==(b:Int)) (l:=List.range n);rw [List.length_range]at this;exact this
set_option maxRecDepth 100000 in
theorem vL (w:World) (a:Option Addr) (c:Nat) (l:List Int) (h:aA w a c l):
 Calls Tryz.prog 104 #[.slice a l.length c] w fun e w'=>e= .returned (i64 (uF l l.length))∧w'=w:=by
 have hle:=h.le;have di:=h.cap
 have HL:=ae h;clear h;go_enter Tryz.func104,Tryz.ntmps104
 go_wp2_with fail
 go_loopw [3,4] (fun nn ii wr=> ∃i:Nat,i≤l.length∧wr=w∧nn= .int .i64 (uF l i)∧ii= .int .i64 i) (fun _ ii _=>l.length-(intOf ii).toNat)
 case atStart=>exact ⟨0,Nat.zero_le _,rfl,rfl,rfl⟩
 case round=>
  obtain ⟨i,hi,hw,rfl,rfl⟩:=hrel;subst hw;by_cases hlt:i<l.length
  ·obtain ⟨b,o,rfl,c0⟩:=HL.out.cell i hlt
   rw [←dM hlt]at c0;have HC:=ae (Dx l i);have EM:=Jl l i;generalize uF l i=q at*;obtain ⟨x,hx⟩: ∃x,x=eF l i:=⟨_,rfl⟩;rw [←hx]at c0 HC;clear hx;have fM:(0:Int)≤(i:Int):=by omega
   have fH:(i:Int)<(l.length:Int):=by omega
   rcases Bool.eq_false_or_eq_true (x==(i:Int))with hq|hq
   ·have HQ:=ae hq
    go_wp2_with fail
    exact ⟨⟨i+1,by omega,by first|trivial|rfl,by rw [HC.out,HQ.out,if_pos rfl];go_num,by go_num⟩,by simp only [intOf];omega⟩
   ·have HQ:=ae hq
    go_wp2_with fail
    exact ⟨⟨i+1,by omega,by first|trivial|rfl,by rw [HC.out,HQ.out,if_neg (by decide)];rfl,by go_num⟩,by simp only [intOf];omega⟩
  ·obtain rfl:i=l.length:=by omega
   go_wp2_with fail
   go_ret;exact ⟨rfl,rfl⟩
section
variable{P:Program} (w:World)
theorem fI {o:Oper} {a:Act} {Q:Exit→Act→World→Prop} {K:Act→World→Prop} (s x:Operand) (t:TypeId)
 (ho:o.op= .call {callee:= .builtin .append,args:= #[s,x],argTypes:= #[t,t]})
 (base:Nat) (e:TypeId) (z:Value) (size bytes:Nat) (ht:P.underlying t=some (.slice e)) (iX:(P.info? e).map (fun i=>(i.zero,i.size,i.bytes))=some (some z,size,bytes)) (hzs:z.cells.size=size) (hsz:0<size)
 (v:Value) (n:Nat) (xs:List Value) (hs:a.eval s=v) (hown:w.ownsRow base e size v n xs)
 (xa:Option Addr) (m c:Nat) (news:List Value) (hx:a.eval x= .slice xa m c) (hl:news.length=m*size) (hnews:0<m→ ∃ad,xa=some ad∧ ∀j u,news[j]?=some u→w.cell? (ad.add j)=some u) (h1: ∀u∈news,u.oneCell'=true)
 (hnil:xa=none→m=0∧c=0)
 (h63:n+m≤1200000000000) (hbytes:bytes≤100) (hbase:base≤w.heap.size)
 (h: ∀v' w',Hid (w'.ownsRow base e size v' (n+m) (xs++news))→Hid (∀a0,Ext a0 w→a0.heap.size≤base→Ext a0 w')→Hid (∀k,k<w.heap.size→some k≠v.ownBlock→w'.heap[k]?=w.heap[k]?)→Hid (w.heap.size≤w'.heap.size)→Hid (v'.ownBlock=v.ownBlock∨ ∃g,v'.ownBlock=some g∧w.heap.size≤g)→K (a.put o.dst v') w') (hm:0<m):Oper.wp P o a w K Q:=by
 obtain ⟨i,hi,hz,hsize,hby⟩:=info_parts iX;have hlt:=hown.lt;have hb:(n+m)*bytes≤140737488355328:=Nat.le_trans (Nat.mul_le_mul h63 hbytes) (by decide);have rE:n+m≤maxLen:=by unfold maxLen;omega
 cases xa with
 |none=>
  obtain ⟨rfl,rfl⟩:=hnil rfl;omega
 |some ad=>
  have kZ: ∀j u,news[j]?=some u→w.cell? (ad.add j)=some u:=by
   intro j u hu;by_cases hm:0<m
   ·obtain ⟨TE,e',hh⟩:=hnews hm;cases e';exact hh j u hu
   ·have:news= []:=List.eq_nil_of_length_eq_zero (by rw [hl];have:m=0:=by omega
                                                     simp [this])
    rw [this]at hu;simp at hu
  obtain ⟨v',w',hr,h2,h3,h4,h5⟩:=gD (P:=P) w base t o.type e i z size bytes ht hi hz hsize hby hzs hsz v n xs hown ad m c news hl kZ h1 rE hb hbase;unfold Oper.wp execOp;simp only [ho,resolve,invoke,builtin,Sem.run_bind,Sem.run_pure,Result.andThen_ok,List.map_toArray,List.map_cons,List.map_nil,hs,hx,hr];refine (h v' w' h2 (fun a0 ha hb0=>⟨ha.below.trans ⟨h3.os,h3.tape,h3.output,h3.size,fun k hk=>h3.block k (by have:=ha.size;omega) (fun e'=>by have:=hlt k e'.symm;omega)⟩,Nat.le_trans ha.drawn h4⟩) h3.block h3.size h5)
end
theorem Tryz.info_pair:(Tryz.prog.info? 166).map (fun i=>(i.zero,i.size,i.bytes))=some (some (.agg #[i64 0,i64 0]),2,16):=by kernel_rfl
def jJ (c:aq) (i:Nat):Int×Int:=((c.lines[i]?.map aS.cd).getD 0,(c.lines[i]?.map aS.ie).getD 0)
theorem np {c:aq} {i:Nat} (h:i<c.lines.length):jJ c i=(c.lines[i].cd,c.lines[i].ie):=by unfold jJ;rw [List.getElem?_eq_getElem h];rfl
def gi (c:aq) (l:List Nat):List (Int×Int):=l.map (jJ c)
def eY (l:List (Int×Int)):List (List Value):=l.map fun p=> [i64 p.1,i64 p.2]
theorem lR (l:List (Int×Int)):(eY l).length=l.length:=by simp [eY]
theorem uG (c:aq) (l:List Nat) (k:Nat) (h:k<l.length):eY (gi c (l.take (k+1)))=eY (gi c (l.take k))++ [[i64 (jJ c l[k]).1,i64 (jJ c l[k]).2]]:=by
 unfold eY gi;rw [List.take_succ_eq_append_getElem h,List.map_append,List.map_append];rfl
set_option maxHeartbeats 1000000 in
set_option maxRecDepth 100000 in
theorem Dy (w0 V:World) (c:aq) (h:Int) (hV:Ext w0 V) (hc:aT w0 c) (hn:c.lines.length≤1000000):
 Calls Tryz.prog 62 #[.agg (C8 c),i64 h] V fun e w'=> ∃a cap b cb,e= .returned (.tuple #[.slice a (cJ c h c.lines.length).length cap,.slice b (cJ c h c.lines.length).length cb])∧bP w' 2 a cap (eY (gi c (cJ c h c.lines.length)))∧aA w' b cb (aC (cJ c h c.lines.length))∧Ext V w'∧Fr V.heap.size a∧Fr V.heap.size b:=by
 try unfold C8
 have hr:=hc.lines;have hle:=hr.le;have di:=hr.cap
 rw [List.length_map]at hle;obtain ⟨l,hl⟩: ∃l,cJ c h c.lines.length=l:=⟨_,rfl⟩;have rO:l.length≤1000000:=by rw [←hl];exact Nat.le_trans (gI _ _ _) hn
 have hlt: ∀i∈l,i<c.lines.length:=by rw [←hl];exact iJ c h _
 have qU:=ae (fun V' (x:Ext w0 V')=>uE w0 V' c h x hc hn);rw [hl]at qU⊢;have HR:=ae hr;have HV:=ae hV;have mG:=ae hlt;have pX:=ae rO
 clear hc hr hV hn hl hlt;go_enter Tryz.func62,Tryz.ntmps62
 go_upto_region 1 with fail
 obtain ⟨W0,hW,x0,Z0,A0⟩:=aB V 32 c.cells;rw [show V.alloc (.cells (C8 c) 32)=W0 from hW.symm];clear hW;have ju:=ae A0;have lW:=ae x0
 obtain ⟨B,hB⟩: ∃B,B=V.heap.size:=⟨_,rfl⟩;rw [←hB]at ju⊢;clear A0 x0 Z0;have kr:=ae hB;clear hB;obtain ⟨k0,k1,k2,k3,k4,k5,k6,k7⟩:=aq.at ju.out;go_wp2_with fail
 refine (qU.out W0 (HV.out.trans lW.out)).mono ?_;rintro e W ⟨a,cap,rfl,hI,x1,jU⟩;have HI:=ae hI;have HX:=ae (lW.out.trans x1);have HA:=ae (ju.out.ext x1);have nL:Hid (Fr V.heap.size a):=jU.mono lW.out.size
 have AW:=hI.le;have yI:=hI.cap
 rw [aK]at AW;clear hI x1 jU k0 k1 k2 k3 k4 k5 k6 k7 lW ju qU;go_wp2_with fail
 go_loopw [7,15] (fun v ii wr=> ∃k:Nat,k≤l.length∧aH wr W.heap.size 166 2 v (eY (gi c (l.take k)))∧Ext W wr∧ii= .int .i64 k) (fun _ ii _=>l.length-(intOf ii).toNat)
 case atStart=>exact ⟨0,Nat.zero_le _,aH.nil _ _ _ _,Ext.refl _,rfl⟩
 case round=>
  obtain ⟨k,hk,hown,hE,rfl⟩:=hrel;have HO:=ae hown;clear hown;by_cases hlt:k<l.length
  ·obtain ⟨ab,ao,hab,i0⟩:=(HI.out.ext hE).cell k (by rw [aK];exact hlt)
   have Au:=mG.out l[k] (List.getElem_mem hlt);have e0:(aC l)[k]'(by rw [aK];exact hlt)=((l[k]:Nat):Int):=by simp [aC]
   rw [e0]at i0;have HST:=ae (uG c l k hlt);rw [np Au]at HST;obtain ⟨b,o,ha,-,g1,g2,-⟩:=((HR.out.ext HV.out).ext HX.out).lines l[k] Au;obtain ⟨-,-,-,k3,-⟩:=aq.at HA.out;rw [ha]at k3;have kW:Hid ((eY (gi c (l.take k))).length=k):=by show _=_;rw [lR];simp [gi];omega
   have kW:Hid ((eY (gi c (l.take k))).length≤1000000):=by show _≤_;rw [kW.out];omega
   generalize c.lines[l[k]]=x at*;generalize eY (gi c (l.take k))=rows at*;generalize l[k]=j at*;have fM:(0:Int)≤(k:Int):=by omega
   have fH:(k:Int)<(l.length:Int):=by omega
   have Lt:(0:Int)≤(j:Int):=by omega
   have Lu:(j:Int)<(c.lines.length:Int):=by omega
   have HE:=ae hE;have se:=hE.size
   have HOW:Hid (wr.ownsRow W.heap.size 166 2 u7 rows.length rows.flatten):=HO.out.own;have dg:=ae hab;clear ha hE hab e0;rw [dg.out];go_wp2_with fail
   refine ay (fun w'=>w'.cell? ⟨B,3,none⟩=some (.slice (some ⟨b,o,none⟩) c.lines.length c.lc)∧w'.cell? ⟨b,o+j*12+1,none⟩=some (i64 x.cd)∧w'.cell? ⟨b,o+j*12+2,none⟩=some (i64 x.ie)) (fun w'=>True) (fun i=>false) (by kernel_rfl) (⟨ai HE.out.drew k3,ai HE.out.drew g1,ai HE.out.drew g2⟩) (trivial) (fun ar ah=> ?_);refine av 0 u7 rfl ar ah ?_;simp only [sS];refine av 1 (.pointer (some ⟨B,3,none⟩)) rfl ar ah ?_;simp only [sS];refine av 2 (.slice (some ⟨b,o,none⟩) c.lines.length c.lc) rfl ar ah ?_;simp only [sS];refine av 3 (.int .i64 (j:Int)) rfl ar ah ?_;simp only [sS];refine av 4 (.pointer (some ⟨b,o+j*12,none⟩)) rfl ar ah ?_;simp only [sS];refine av 5 (.pointer (some ⟨b,o+j*12+1,none⟩)) rfl ar ah ?_;simp only [sS];refine av 6 (i64 x.cd) rfl ar ah ?_;simp only [sS];refine av 7 (.pointer (some ⟨B,3,none⟩)) rfl ar ah ?_;simp only [sS];refine av 8 (.slice (some ⟨b,o,none⟩) c.lines.length c.lc) rfl ar ah ?_;simp only [sS];refine av 9 (.int .i64 (j:Int)) rfl ar ah ?_;simp only [sS];refine av 10 (.pointer (some ⟨b,o+j*12,none⟩)) rfl ar ah ?_;simp only [sS];refine av 11 (.pointer (some ⟨b,o+j*12+2,none⟩)) rfl ar ah ?_;simp only [sS];refine av 12 (i64 x.ie) rfl ar ah ?_;simp only [sS];refine av 13 (.agg #[i64 x.cd,i64 x.ie]) rfl ar ah ?_;simp only [sS];refine cG 14 rfl (fun Kc hK=> ?_);go_simp;refine hK.out _ _ (⟨ai (HE.out.drew.alloc _) k3,ai (HE.out.drew.alloc _) g1,ai (HE.out.drew.alloc _) g2⟩) (trivial) (fun ar ah=> ?_);clear hK Kc;try simp only [sS]
   refine cG 15 rfl (fun Kc hK=> ?_);rw [if_pos (by rfl)];refine fI _ (.tmp 19) (.tmp 33) 108 rfl W.heap.size 166 (.agg #[i64 0,i64 0]) 2 16 Tryz.underlying108 Tryz.info_pair rfl (by decide) u7 rows.length rows.flatten rfl ?c1 (some ⟨wr.heap.size,0,none⟩) 1 1 [i64 x.cd,i64 x.ie] rfl rfl ?c2 ?c3 ?c4 ?c5 (by decide) ?c6 ?c7 (by decide)
   case c1=>exact bG HOW.out ((Ext.refl wr).drew.alloc _)
   case c2=>exact fun _=>⟨_,rfl,cC wr.drew 166 [i64 x.cd,i64 x.ie]⟩
   case c3=>intro u hu;simp only [List.mem_cons,List.not_mem_nil,or_false]at hu;rcases hu with rfl|rfl<;>rfl
   case c4=>intro e;cases e
   case c5=>have:=kW.out;omega
   case c6=>exact Nat.le_trans se ((Ext.refl wr).drew.alloc _).size
   intro v1 w5 ho he hb hz hv;have x5:Ext W w5:=he.out W (HE.out.drew.alloc _) (Nat.le_refl _);refine hK.out _ _ (⟨ai x5 k3,ai x5 g1,ai x5 g2⟩) (trivial) (fun ar ah=> ?_);clear hK Kc;try simp only [sS]
   refine av 16 v1 rfl ar ah ?_;simp only [sS];refine ax (by kernel_rfl) ?_ _;clear ar ah;have iC:=HO.out.snoc (w':=w5) (v':=v1) (r:= [i64 x.cd,i64 x.ie]) rfl ho.out;rw [←HST.out]at iC;go_wp2_with fail
   exact ⟨⟨k+1,by omega,iC,x5,by go_num⟩,by simp only [intOf];omega⟩
  ·obtain rfl:k=l.length:=by omega
   rw [List.take_length]at HO;obtain ⟨pa,pc,rfl,hS,jU⟩:=HO.out.recs (by decide);have e1:(eY (gi c l)).length=l.length:=by rw [lR];simp [gi]
   rw [e1];have HS:=ae hS;have sj:=ae jU
   clear hS jU HO e1;go_wp2_with fail
   exact bodyPost_ret (v:= .tuple #[.slice pa l.length pc,.slice a l.length cap]) (by simp [results,Tryz.results62,go_sem]) rfl ⟨pa,pc,a,cap,rfl,HS.out,HI.out.ext hE,HX.out.trans hE,sj.out.mono HX.out.size,nL.out⟩
inductive g_ (E:List (Nat×Nat)):Nat→Nat→Prop
 |refl (a:Nat):g_ E a a
 |AY {a b:Nat}:(a,b)∈E→g_ E a b
 |symm {a b:Nat}:g_ E a b→g_ E b a
 |trans {a b c:Nat}:g_ E a b→g_ E b c→g_ E a c
theorem g_.mono {E F:List (Nat×Nat)} (h: ∀p∈E,p∈F) {a b:Nat} (c:g_ E a b):g_ F a b:=by
 induction c with
 |refl a=>exact .refl a
 |AY h'=>exact .AY (h _ h')
 |symm _ ih=>exact ih.symm
 |trans _ _ Pn Po=>exact Pn.trans Po
theorem g_.label {E:List (Nat×Nat)} {α:Type} (f:Nat→α) (h: ∀p∈E,f p.1=f p.2) {a b:Nat} (c:g_ E a b):f a=f b:=by
 induction c with
 |refl a=>rfl
 |AY h'=>exact h _ h'
 |symm _ ih=>exact ih.symm
 |trans _ _ Pn Po=>exact Pn.trans Po
def jg (f:Nat→Nat) (b:Nat):Bool:=(List.range b).all fun k=>f k !=f b
theorem fq (f:Nat→Nat) (b:Nat):jg f b=true↔ ∀k,k<b→f k≠f b:=by
 unfold jg;rw [List.all_eq_true];constructor
 ·intro h k hk;simpa using h k (List.mem_range.2 hk)
 ·intro h k hk;simpa using h k (List.mem_range.1 hk)
def cls (f:Nat→Nat) (n:Nat):Nat:=(List.range n).countP (jg f)
theorem F6 (f:Nat→Nat):cls f 0=0:=rfl
theorem o5 (f:Nat→Nat) (n:Nat):cls f (n+1)=cls f n+if jg f n then 1 else 0:=by
 unfold cls;rw [List.range_succ,List.countP_append,List.countP_singleton]
theorem Md (f:Nat→Nat) (n:Nat):cls f n≤n:=by
 induction n with
 |zero=>exact Nat.le_refl _
 |succ n ih=>rw [o5];split<;>omega
def merge (f:Nat→Nat) (x y:Nat) (b:Nat):Nat:=if f b=y then x else f b
theorem Dz (f:Nat→Nat) (x y:Nat) (sU:x≠y) (n:Nat):
 cls (merge f x y) n+(if(∃a,a<n∧f a=x)∧(∃a,a<n∧f a=y)then 1 else 0)=cls f n:=by
 induction n with
 |zero=>simp [F6]
 |succ n ih=>
  rw [o5,o5]
  have hex: ∀z,(∃a,a<n+1∧f a=z)↔((∃a,a<n∧f a=z)∨f n=z):=by
   intro z;constructor
   ·rintro ⟨a,ha,e⟩
    by_cases h:a=n
    ·exact Or.inr (h▸e)
    ·exact Or.inl ⟨a,by omega,e⟩
   ·rintro (⟨a,ha,e⟩|e)
    ·exact ⟨a,by omega,e⟩
    ·exact ⟨n,by omega,e⟩
  by_cases hx:f n=x
  ·have hy':f n≠y:=fun e=>sU (hx▸e)
   have hm:merge f x y n=x:=by unfold merge;rw [if_neg hy',hx]
   have h1:jg (merge f x y) n=true↔(¬(∃a,a<n∧f a=x))∧ ¬(∃a,a<n∧f a=y):=by
    rw [fq,hm];constructor
    ·intro h
     refine ⟨fun⟨a,ha,e⟩=>h a ha ?_,fun⟨a,ha,e⟩=>h a ha ?_⟩
     ·unfold merge;split<;>first|rfl|exact e
     ·unfold merge;rw [if_pos e]
    ·rintro ⟨h1,h2⟩ k hk e
     unfold merge at e;split at e
     ·rename_i h;exact h2 ⟨k,hk,h⟩
     ·exact h1 ⟨k,hk,e⟩
   have h2:jg f n=true↔ ¬(∃a,a<n∧f a=x):=by
    rw [fq,hx];exact ⟨fun h ⟨a,ha,e⟩=>h a ha e,fun h k hk e=>h ⟨k,hk,e⟩⟩
   simp only [hex];by_cases p1: ∃a,a<n∧f a=x<;>by_cases p2: ∃a,a<n∧f a=y<;>simp_all<;>omega
  ·by_cases hy:f n=y
   ·have hm:merge f x y n=x:=by unfold merge;rw [if_pos hy]
    have h1:jg (merge f x y) n=true↔(¬(∃a,a<n∧f a=x))∧ ¬(∃a,a<n∧f a=y):=by
     rw [fq,hm];constructor
     ·intro h
      refine ⟨fun⟨a,ha,e⟩=>h a ha ?_,fun⟨a,ha,e⟩=>h a ha ?_⟩
      ·unfold merge;split<;>first|rfl|exact e
      ·unfold merge;rw [if_pos e]
     ·rintro ⟨h1,h2⟩ k hk e
      unfold merge at e;split at e
      ·rename_i h;exact h2 ⟨k,hk,h⟩
      ·exact h1 ⟨k,hk,e⟩
    have h2:jg f n=true↔ ¬(∃a,a<n∧f a=y):=by
     rw [fq,hy];exact ⟨fun h ⟨a,ha,e⟩=>h a ha e,fun h k hk e=>h ⟨k,hk,e⟩⟩
    simp only [hex];by_cases p1: ∃a,a<n∧f a=x<;>by_cases p2: ∃a,a<n∧f a=y<;>simp_all<;>omega
   ·have hm:merge f x y n=f n:=by unfold merge;rw [if_neg hy]
    have h1:jg (merge f x y) n=true↔jg f n=true:=by
     rw [fq,fq,hm];constructor
     ·intro h k hk e
      refine h k hk ?_;unfold merge;rw [if_neg (by rw [e];exact hy)];exact e
     ·intro h k hk e
      unfold merge at e;split at e
      ·exact hx e.symm
      ·exact h k hk e
    simp only [hex];by_cases p1: ∃a,a<n∧f a=x<;>by_cases p2: ∃a,a<n∧f a=y<;>by_cases p3:jg f n=true<;>simp_all<;>omega
def jK (n:Nat) (E:List (Nat×Nat)) (f:Nat→Nat):Prop:= ∀a b,a<n→b<n→(f a=f b↔g_ E a b)
theorem jK.nil (n:Nat):jK n [] (fun b=>b):=by
 intro a b _ _;constructor
 ·rintro rfl;exact .refl _
 ·intro h;exact h.label (fun b=>b) (fun p hp=>absurd hp (by simp))
theorem g_.yJ {E:List (Nat×Nat)} {x y a b:Nat}:g_ (E++ [(x,y)]) a b↔g_ E a b∨(g_ E a x∧g_ E y b)∨(g_ E a y∧g_ E x b):=by
 constructor
 ·intro h
  induction h with
  |refl a=>exact Or.inl (.refl _)
  | @AY a b h=>
    rcases List.mem_append.1 h with h|h
    ·exact Or.inl (.AY h)
    ·simp only [List.mem_singleton,Prod.mk.injEq]at h
     obtain ⟨rfl,rfl⟩:=h;exact Or.inr (Or.inl ⟨.refl _,.refl _⟩)
  |symm _ ih=>
   rcases ih with h|⟨h1,h2⟩|⟨h1,h2⟩
   ·exact Or.inl h.symm
   ·exact Or.inr (Or.inr ⟨h2.symm,h1.symm⟩)
   ·exact Or.inr (Or.inl ⟨h2.symm,h1.symm⟩)
  |trans _ _ Pn Po=>
   rcases Pn with h|⟨h1,h2⟩|⟨h1,h2⟩<;>rcases Po with g|⟨g1,g2⟩|⟨g1,g2⟩
   ·exact Or.inl (h.trans g)
   ·exact Or.inr (Or.inl ⟨h.trans g1,g2⟩)
   ·exact Or.inr (Or.inr ⟨h.trans g1,g2⟩)
   ·exact Or.inr (Or.inl ⟨h1,h2.trans g⟩)
   ·exact Or.inr (Or.inl ⟨h1,g2⟩)
   ·exact Or.inl (h1.trans g2)
   ·exact Or.inr (Or.inr ⟨h1,h2.trans g⟩)
   ·exact Or.inl (h1.trans g2)
   ·exact Or.inr (Or.inr ⟨h1,g2⟩)
 ·have hm: ∀{a b},g_ E a b→g_ (E++ [(x,y)]) a b:=fun h=>h.mono (fun p hp=>List.mem_append_left _ hp)
  have he:g_ (E++ [(x,y)]) x y:= .AY (by simp);rintro (h|⟨h1,h2⟩|⟨h1,h2⟩)
  ·exact hm h
  ·exact (hm h1).trans (he.trans (hm h2))
  ·exact (hm h1).trans (he.symm.trans (hm h2))
theorem jK.skip {n:Nat} {E:List (Nat×Nat)} {f:Nat→Nat} (h:jK n E f) {x y:Nat} (hx:x<n) (hy:y<n) (e:f x=f y):jK n (E++ [(x,y)]) f:=by
 intro a b ha hb;have hc:=(h x y hx hy).1 e;rw [g_.yJ,h a b ha hb];constructor
 ·exact Or.inl
 ·rintro (g|⟨g1,g2⟩|⟨g1,g2⟩)
  ·exact g
  ·exact g1.trans (hc.trans g2)
  ·exact g1.trans (hc.symm.trans g2)
theorem jK.join {n:Nat} {E:List (Nat×Nat)} {f:Nat→Nat} (h:jK n E f) {x y:Nat} (hx:x<n) (hy:y<n) (_e:f x≠f y):jK n (E++ [(x,y)]) (merge f (f x) (f y)):=by
 intro a b ha hb;rw [g_.yJ,←h a b ha hb,←h a x ha hx,←h y b hy hb,←h a y ha hy,←h x b hx hb];unfold merge;by_cases h1:f a=f y<;>by_cases h2:f b=f y<;>simp [h1,h2]<;>omega
theorem jK.AZ {n:Nat} {f:Nat→Nat} {x y:Nat} (hx:x<n) (hy:y<n) (e:f x≠f y):cls (merge f (f x) (f y)) n+1=cls f n:=by
 have:=Dz f (f x) (f y) e n;rw [if_pos ⟨⟨x,hx,rfl⟩,⟨y,hy,rfl⟩⟩]at this;exact this
structure iZ (n:Nat) (E:List (Nat×Nat)) (f:Nat→Nat):Prop where
 le: ∀b,b<n→f b≤b
 conn: ∀b,b<n→g_ E b (f b)
theorem iZ.tells {n:Nat} {E:List (Nat×Nat)} {f:Nat→Nat} (h:iZ n E f) (he: ∀p∈E,f p.1=f p.2):jK n E f:=by
 intro a b ha hb;constructor
 ·intro e
  have:=h.conn b hb;rw [←e]at this;exact (h.conn a ha).trans this.symm
 ·intro c;exact c.label f he
theorem iZ.first {n:Nat} {E:List (Nat×Nat)} {f:Nat→Nat} (h:iZ n E f) (he: ∀p∈E,f p.1=f p.2) (b:Nat) (hb:b<n):(f b==b)=jg f b:=by
 rw [Bool.eq_iff_iff,fq];simp only [beq_iff_eq];constructor
 ·intro e k hk hf
  have:=h.le k (by omega);omega
 ·intro hf
  have h1:=h.le b hb;by_cases e:f b=b
  ·exact e
  ·have h3:f (f b)=f b:=(h.tells he (f b) b (by omega) hb).2 (h.conn b hb).symm
   exact absurd h3 (hf (f b) (by omega))
def iP (w:World) (B:Nat) (f:Nat→Nat) (n:Nat):Prop:=aG w B 3 ((List.range n).map fun b=>i64 ((f b:Nat):Int))
def fG (f:Nat→Nat) (k v:Nat) (b:Nat):Nat:=if b=k then v else f b
theorem iP.cell {w:World} {B:Nat} {f:Nat→Nat} {n:Nat} (h:iP w B f n) (k:Nat) (hk:k<n):w.cell? ⟨B,k,none⟩=some (i64 ((f k:Nat):Int))∧w.frozen? ⟨B,k,none⟩=false:=
 ⟨by rw [aG.cell h k];simp [hk],aG.frozen h k⟩
theorem iP.ext {w w':World} {B:Nat} {f:Nat→Nat} {n:Nat} (h:iP w B f n) (e:Ext w w'):iP w' B f n:=aG.ext h e
theorem iP.lt {w:World} {B:Nat} {f:Nat→Nat} {n:Nat} (h:iP w B f n):B<w.heap.size:=aG.lt h
theorem iP.congr {w:World} {B:Nat} {f g:Nat→Nat} {n:Nat} (h:iP w B f n) (e: ∀b,b<n→f b=g b):iP w B g n:=by
 unfold iP at*
 have:((List.range n).map fun b=>i64 ((g b:Nat):Int))=(List.range n).map fun b=>i64 ((f b:Nat):Int):=by
  apply List.map_congr_left;intro b hb;rw [e b (List.mem_range.1 hb)]
 rw [this];exact h
theorem iP.set {w:World} {B:Nat} {f:Nat→Nat} {n:Nat} (h:iP w B f n) (k v:Nat):iP (w.setCell ⟨B,k,none⟩ (i64 (v:Int))) B (fG f k v) n:=by
 unfold iP at*;have h5:=aG.set h k (i64 (v:Int))
 have:((List.range n).map fun b=>i64 ((f b:Nat):Int)).set k (i64 (v:Int))=(List.range n).map fun b=>i64 ((fG f k v b:Nat):Int):=by
  apply List.ext_getElem
  ·simp
  ·intro i h1 h2
   rw [List.getElem_set];simp only [List.getElem_map,List.getElem_range];unfold fG;by_cases hik:k=i
   ·subst hik;simp
   ·rw [if_neg hik,if_neg (fun e=>hik e.symm)]
 rw [this]at h5;exact h5
theorem iP.zero {w:World} {B:Nat} {n:Nat} (h:aG w B 3 (List.replicate n (.int .i64 0))):iP w B (fun b=>if b<0 then b else 0) n:=by
 unfold iP
 have:((List.range n).map fun b=>i64 (((if b<0 then b else 0:Nat):Nat):Int))=List.replicate n (.int .i64 0):=by
  apply List.ext_getElem
  ·simp
  ·intro i h1 h2;simp
 rw [this];exact h
theorem iP.next {w:World} {B n k:Nat} (h:iP w B (fun b=>if b<k then b else 0) n):iP (w.setCell ⟨B,k,none⟩ (i64 (k:Int))) B (fun b=>if b<k+1 then b else 0) n:=
 (h.set k k).congr fun b _=>by
   unfold fG;by_cases e:b=k
   ·subst e;simp
   ·rw [if_neg e]
    show(if b<k then b else 0)=(if b<k+1 then b else 0);by_cases e2:b<k
    ·rw [if_pos e2,if_pos (by omega)]
    ·rw [if_neg e2,if_neg (by omega)]
theorem iP.full {w:World} {B n:Nat} (h:iP w B (fun b=>if b<n then b else 0) n):iP w B (fun b=>b) n:=h.congr fun b hb=>by simp [hb]
def sumTo (f:Nat→Nat):Nat→Nat
 |0=>0
 |n+1=>sumTo f n+f n
theorem o6 (f:Nat→Nat) (k v:Nat): ∀n,n≤k→sumTo (fG f k v) n=sumTo f n
 |0,_=>rfl
 |n+1,h=>by
  have:fG f k v n=f n:=by unfold fG;rw [if_neg (by omega)]
  simp only [sumTo,o6 f k v n (by omega),this]
theorem sumTo_upd (f:Nat→Nat) (k v:Nat): ∀n,k<n→sumTo (fG f k v) n+f k=sumTo f n+v
 |0,h=>absurd h (Nat.not_lt_zero _)
 |n+1,h=>by
  by_cases e:k=n
  ·subst e
   have:fG f k v k=v:=by unfold fG;rw [if_pos rfl]
   simp only [sumTo,o6 f k v k (Nat.le_refl _),this];omega
  ·have ih:=sumTo_upd f k v n (by omega)
   have:fG f k v n=f n:=by unfold fG;rw [if_neg (fun h=>e h.symm)]
   simp only [sumTo,this];omega
def dT (f:Nat→Nat) (p:Nat×Nat):Nat→Nat:=fG (fG f p.1 (min (f p.1) (f p.2))) p.2 (min (f p.1) (f p.2))
theorem yK {n:Nat} {E:List (Nat×Nat)} {f:Nat→Nat} (h:iZ n E f) {p:Nat×Nat} (hp:p∈E) (h1:p.1<n) (h2:p.2<n):iZ n E (dT f p):=by
 have l1:=h.le p.1 h1;have l2:=h.le p.2 h2;have e:g_ E p.1 p.2:= .AY hp
 have cm:g_ E p.1 (min (f p.1) (f p.2)):=by
  by_cases q:f p.1≤f p.2
  ·rw [Nat.min_eq_left q];exact h.conn p.1 h1
  ·rw [Nat.min_eq_right (by omega)];exact e.trans (h.conn p.2 h2)
 constructor
 ·intro b hb
  have:=h.le b hb;unfold dT fG;by_cases q2:b=p.2
  ·rw [if_pos q2];omega
  ·rw [if_neg q2]
   by_cases q1:b=p.1
   ·rw [if_pos q1];omega
   ·rw [if_neg q1];exact this
 ·intro b hb
  unfold dT fG;by_cases q2:b=p.2
  ·rw [if_pos q2,q2];exact e.symm.trans cm
  ·rw [if_neg q2]
   by_cases q1:b=p.1
   ·rw [if_pos q1,q1];exact cm
   ·rw [if_neg q1];exact h.conn b hb
theorem DA {n:Nat} {f:Nat→Nat} {p:Nat×Nat} (h1:p.1<n) (h2:p.2<n):sumTo (dT f p) n≤sumTo f n∧(f p.1≠f p.2→sumTo (dT f p) n<sumTo f n):=by
 unfold dT;obtain ⟨m,hm⟩: ∃m,m=min (f p.1) (f p.2):=⟨_,rfl⟩;rw [←hm];have a:=sumTo_upd f p.1 m n h1;have b:=sumTo_upd (fG f p.1 m) p.2 m n h2;have c:fG f p.1 m p.2=if p.2=p.1 then m else f p.2:=rfl
 rw [c]at b;by_cases q:p.2=p.1
 ·have e:f p.2=f p.1:=by rw [q]
  rw [if_pos q]at b;omega
 ·rw [if_neg q]at b
  omega
theorem tv {f:Nat→Nat} {p:Nat×Nat} (h:f p.1=f p.2) (b:Nat):dT f p b=f b:=by
 unfold dT fG;rw [h,Nat.min_self];by_cases q2:b=p.2
 ·rw [if_pos q2,q2]
 ·rw [if_neg q2]
  by_cases q1:b=p.1
  ·rw [if_pos q1,q1,h]
  ·rw [if_neg q1]
theorem iZ.congr {n:Nat} {E:List (Nat×Nat)} {f g:Nat→Nat} (h:iZ n E f) (e: ∀b,b<n→f b=g b):iZ n E g:=
 ⟨fun b hb=>by rw [←e b hb];exact h.le b hb,fun b hb=>by rw [←e b hb];exact h.conn b hb⟩
theorem iZ.start (n:Nat) (E:List (Nat×Nat)):iZ n E (fun b=>b):=⟨fun _ _=>Nat.le_refl _,fun _ _=> .refl _⟩
structure qV (n:Nat) (E:List (Nat×Nat)) (f:Nat→Nat) (i:Nat) (g:Nat→Nat) (ag:Bool):Prop where
 least:iZ n E g
 sum:sumTo g n≤sumTo f n
 yes:ag=true→sumTo g n<sumTo f n
 no:ag=false→ ∀p∈E.take i,g p.1=g p.2
theorem qV.start {n:Nat} {E:List (Nat×Nat)} {f:Nat→Nat} (h:iZ n E f):qV n E f 0 f false:=⟨h,Nat.le_refl _,(fun e=>by cases e),(fun _ p hp=>by simp at hp)⟩
theorem qV.step {n:Nat} {E:List (Nat×Nat)} {f g:Nat→Nat} {i:Nat} {ag:Bool} (h:qV n E f i g ag) (hi:i<E.length) (h1:E[i].1<n) (h2:E[i].2<n):
 qV n E f (i+1) (dT g E[i]) (ag||(g E[i].1 !=min (g E[i].1) (g E[i].2))||(g E[i].2 !=min (g E[i].1) (g E[i].2))):=by
 have hs:=DA (f:=g) h1 h2;refine ⟨yK h.least (List.getElem_mem hi) h1 h2,Nat.le_trans hs.1 h.sum,fun e=> ?_,fun e=> ?_⟩
 ·by_cases q:g E[i].1=g E[i].2
  ·rw [q]at e
   simp at e;exact Nat.lt_of_le_of_lt hs.1 (h.yes e)
  ·exact Nat.lt_of_lt_of_le (hs.2 q) h.sum
 ·simp at e
  obtain ⟨⟨e1,e2⟩,e3⟩:=e;have q:g E[i].1=g E[i].2:=by omega
  intro p hp;rw [tv q,tv q];rw [List.take_succ_eq_append_getElem hi,List.mem_append]at hp;rcases hp with hp|hp
  ·exact h.no e1 p hp
  ·rw [List.mem_singleton]at hp;rw [hp];exact q
end Go.Proofs.YtkpngkdgphojlaaGreat
