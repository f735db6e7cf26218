/- Texts of the proof. -/
import Derived.Test.YtkpngkdgphojlaaGreatCd4
import Derived.Test.YtkpngkdgphojlaaGreatCd7
set_option linter.all false
set_option maxHeartbeats 4000000
set_option maxRecDepth 100000
namespace Go.Proofs.YtkpngkdgphojlaaGreat
open Go.Proofs.Tryz
open Go.RowKit
section
variable{P:Program} (w:World)
theorem pN {ops:Array Oper} {rest:List Oper} {o:Oper} {a:Act} {Q:Exit→Act→World→Prop} (hgd:o.guard=none) (s x:Operand) (t:TypeId)
 (ho:o.op= .call {callee:= .builtin .append,args:= #[s,x],argTypes:= #[t,t]})
 (base:Nat) (e:TypeId) (z:Value) (size bytes:Nat) (ht:P.underlying t=some (.slice e)) (jt:(P.info? e).map (fun i=>(i.zero,i.size,i.bytes))=some (some z,size,bytes)) (hzs:z.cells.size=size) (hsz:0<size)
 (v:Value) (n:Nat) (xs:List Value) (hs:a.eval s=v) (hown:w.ownsRow base e size v n xs)
 (xa:Option Addr) (m c:Nat) (news:List Value) (hx:a.eval x= .slice xa m c) (hl:news.length=m*size) (hnews:0<m→ ∃ad,xa=some ad∧ ∀j u,news[j]?=some u→w.cell? (ad.add j)=some u) (h1: ∀u∈news,u.oneCell'=true)
 (hnil:xa=none→m=0∧c=0)
 (td:n+m≤9223372036854775807) (hb:(n+m)*bytes≤140737488355328) (hbase:base≤w.heap.size)
 (h: ∀v' w',Hid (w'.ownsRow base e size v' (n+m) (xs++news))→Hid (∀a0,Ext a0 w→a0.heap.size≤base→Ext a0 w')→Hid (∀k,k<w.heap.size→some k≠v.ownBlock→w'.heap[k]?=w.heap[k]?)→Hid (w.heap.size≤w'.heap.size)→Hid (v'.ownBlock=v.ownBlock∨ ∃g,v'.ownBlock=some g∧w.heap.size≤g)→wpList P ops Q rest (a.put o.dst v') w'):wpList P ops Q (o::rest) a w:=by
 obtain ⟨i,hi,hz,hsize,hby⟩:=info_parts jt;have hlt:=hown.lt;have td:n+m≤maxLen:=by unfold maxLen;omega
 cases xa with
 |none=>
  obtain ⟨rfl,rfl⟩:=hnil rfl;have hn:news= []:=List.eq_nil_of_length_eq_zero (by simpa using hl);subst hn;refine wpList_append_own_none hgd s x t ho base e i size ht hi v n xs hs hown hx ?_;exact h v w (ae (by simpa using hown)) (fun _ h _=>h) (fun _ _ _=>rfl) (Nat.le_refl _) (.inl rfl)
 |some ad=>
  have lR: ∀j u,news[j]?=some u→w.cell? (ad.add j)=some u:=by
   intro j u hu;by_cases hm:0<m
   ·obtain ⟨Vs,e',hh⟩:=hnews hm;cases e';exact hh j u hu
   ·have:news= []:=List.eq_nil_of_length_eq_zero (by rw [hl];have:m=0:=by omega
                                                     simp [this])
    rw [this]at hu;simp at hu
  refine wpList_plain hgd fun K hK=> ?_;obtain ⟨v',w',hr,h2,h3,h4,h5⟩:=gX (P:=P) w base t o.type e i z size bytes ht hi hz hsize hby hzs hsz v n xs hown ad m c news hl lR h1 td hb hbase;unfold Oper.wp execOp;simp only [ho,resolve,invoke,builtin,Sem.run_bind,Sem.run_pure,Result.andThen_ok,List.map_toArray,List.map_cons,List.map_nil,hs,hx,hr];refine hK _ _ (h v' w' h2 (fun a0 ha hb0=>⟨ha.below.trans ⟨h3.os,h3.tape,h3.output,h3.size,fun k hk=>h3.block k (by have:=ha.size;omega) (fun e'=>by have:=hlt k e'.symm;omega)⟩,Nat.le_trans ha.drawn h4⟩) h3.block h3.size h5)
end
theorem aD.nk {w:World} {a:Option Addr} {c:Nat} {l:List Int} (h:bS w 1 a c (l.map fun x=> [i64 x])) (hl:gl l):aD w a c l:=
 ⟨by have:=h.le;rw [List.length_map]at this;exact this,h.cap,fun i hi=>by
   obtain ⟨b,o,ha,hc⟩:=h.cell i (by simpa using hi);refine ⟨b,o,ha,?_⟩;have:=hc 0 (by simp);simpa using this,fun i hi=>by
   have:=hl l[i] (List.getElem_mem hi);unfold bp at this;omega⟩
theorem aD.two (W:World) (x y:Int) (hx:bp x) (hy:bp y):aD (W.alloc (.cells #[i64 x,i64 y] 3)) (some ⟨W.heap.size,0,none⟩) 2 [x,y]:=
 ⟨by simp,by omega,fun i hi=>⟨W.heap.size,0,rfl,by
     have h0:i=0∨i=1:=by simp at hi;omega
     rcases h0 with h0|h0<;>subst h0
     ·exact (aJ.alloc W 3 [i64 x,i64 y]).cell 0
     ·exact (aJ.alloc W 3 [i64 x,i64 y]).cell 1⟩,fun i hi=>by
     have h0:i=0∨i=1:=by simp at hi;omega
     unfold bp at hx hy;rcases h0 with h0|h0<;>subst h0<;>simp<;>omega⟩
theorem VJ (W:World) (x y lo hi:Int) (hx:bp x) (hy:bp y):
 Calls prog 56 #[i64 lo,i64 hi,.slice (some ⟨W.heap.size,0,none⟩) 2 2] (W.alloc (.cells #[i64 x,i64 y] 3)) fun e w'=>e= .returned (.bool (bk lo hi [x,y]))∧w'=W.alloc (.cells #[i64 x,i64 y] 3):=
 eI _ lo hi _ 2 [x,y] (aD.two W x y hx hy)
theorem xE {n:Nat} (h:n≤9223372036854775807):bp (n:Int):=by unfold bp;omega
def wu (m:bE):Bool:=bk 0 1048576 [m.up,m.down]
theorem CX (l:List bE) (i:Nat) (h:i<l.length):(l.take (i+1)).all wu=((l.take i).all wu&&wu l[i]):=by
 rw [List.take_succ_eq_append_getElem h,List.all_append];simp
theorem aD.dA {w w':World} {a:Option Addr} {c K:Nat} {l:List Int} (h:aD w a c l) (x:ar K w w') (hb: ∀p,a=some p→p.block≠K):aD w' a c l:=
 ⟨h.le,h.cap,fun i hi=>by
   obtain ⟨b,o,ha,hc⟩:=h.cell i hi;exact ⟨b,o,ha,bL hc x (show b≠K from hb _ ha)⟩,h.Nf⟩
def nS (c:ai) (x:bB) (prev:List ByteArray) (e:Int):Int:=nd (nd (nd (nd (nd (nd (nd (nd (gP e x.name prev) (bk 1 2 [(x.lines.length:Int)]) 4) (bk 0 ((c.lines.length:Int)-1) x.lines) 12) (g_ x.lines) 11) (x.bC||decide (x.moves.length=0)) 16) (decide ((x.moves.length:Int)≤16)) 8) (bk 0 ((c.au.length:Int)-1) (x.moves.map bE.unit)) 12) (g_ (x.moves.map bE.unit)) 11) (x.moves.all wu) 3
theorem CY (w0 V:World) (K:Nat) (c:ai) (e:Int) (i:Nat) (hi:i<c.outs.length) (hK:w0.heap.size≤K) (hV:Ext w0 V) (hc:aS w0 c) (hn:c.outs.length≤1000000) (PB: ∀o∈c.outs,o.moves.length≤5900000000000) (h:FE V K e):
 Calls prog 61 #[.pointer (some ⟨K,0,none⟩),.agg (C8 c),i64 i] V fun e' w'=>qT V K (nS c c.outs[i] ((c.outs.take i).map bB.name) e) e' w':=by
 try unfold C8
 have J9:=h.lt;have hr:=hc.outs;have hle:=hr.le;have dy:=hr.cap
 rw [List.length_map]at hle;obtain ⟨b,o,ha,c0,c1,c2,c3⟩:=(hr.ext hV).outs i hi;have jb:=hc.o c.outs[i] (List.getElem_mem hi);have VK:=ae (pF c);obtain ⟨prev,CN⟩: ∃prev,prev=(c.outs.take i).map bB.name:=⟨_,rfl⟩;obtain ⟨x,jc⟩: ∃x,x=c.outs[i]:=⟨_,rfl⟩;have kN:Hid (∃h:i<(c.outs.map bB.name).length,(c.outs.map bB.name)[i]=x.name∧(c.outs.map bB.name).take i=prev):=⟨by simpa using hi,by subst jc;simp,by subst CN;rw [List.map_take]⟩;have uF:Hid ((c.outs.map bB.name).length≤1000000):=by(show _≤_;rw [List.length_map];exact hn)
 rw [←CN,←jc];rw [←jc]at c0 c1 c2 c3 jb;clear CN hn;have qL:=ae jb.2.1;have Ud:=ae jb.2.2.1;have PC:=ae jb.2.2.2
 have Hw:x.lines.length≤9223372036854775807:=Nat.le_trans jb.2.1.le jb.2.1.cap;have wA:=ae (xE Hw);have QC:=ae Hw;have tC:c.lines.length≤9223372036854775807:=by have:=hc.lines.le;have:=hc.lines.cap;rw [List.length_map]at*;omega
 have jv:c.au.length≤9223372036854775807:=by have:=hc.au.le;have:=hc.au.cap;rw [List.length_map]at*;omega
 have HWL:Hid (IntKind.i64.wrap ((c.lines.length:Int)-1)=(c.lines.length:Int)-1):=by show _=_;rw [IntKind.wrap_i64];omega
 have HWU:Hid (IntKind.i64.wrap ((c.au.length:Int)-1)=(c.au.length:Int)-1):=by show _=_;rw [IntKind.wrap_i64];omega
 have VL:=ae tC;have Kd:=ae jv
 have PD:Hid (x.moves.length≤5900000000000):=by show _≤_;rw [jc];exact PB _ (List.getElem_mem hi)
 have Ke:Hid (x.moves.length≤9223372036854775807):=Nat.le_trans PD.o (by decide)
 have HMU:Hid (gl (x.moves.map bE.unit)):=fun z hz=>by
  obtain ⟨m,hm,rfl⟩:=List.mem_map.1 hz;exact jb.2.2.2 m hm m.unit (by simp)
 clear Hw tC jv PB jc;have pO:=ae jb.1;have HV:=ae hV;have et:=ae hc;have HH:=ae h;have cX:=ae hK
 have f_:(0:Int)≤(i:Int):=by omega
 have fU:(i:Int)<(c.outs.length:Int):=by omega
 unfold nS;have qK:=ae ha;clear hr h hc hV hK jb ha;go_enter func61,ntmps61
 go_upto_region 1 with fail
 obtain ⟨W0,hW,x0,Z0,A0⟩:=aH V 32 c.cells;rw [show V.alloc (.cells (C8 c) 32)=W0 from hW.symm];clear hW;obtain ⟨B,hB⟩: ∃B,B=V.heap.size:=⟨_,rfl⟩;rw [←hB]at A0⊢;have fP:B≠K:=by omega
 obtain ⟨-,-,k2,k3,k4,k5,k6,k7⟩:=ai.at A0;rw [qK.o]at k7;have c0:=aj x0 c0;have c1:=aj x0 c1;have c2:=aj x0 c2;have c3:=aj x0 c3;have zR:=ae A0;have X0:=ae x0;have wC:=ae hB
 clear A0 Z0 x0 hB k2 k3 k4 k5 k6;go_upto_region 2 with fail
 obtain ⟨W1,hW1,x1,Z1,A1⟩:=aH W0 87 x.cells;rw [show W0.alloc (.cells #[.string x.name,.slice x.la x.lines.length x.lc,.bool x.bC,.slice x.ma x.moves.length x.mc] 87)=W1 from hW1.symm];clear hW1 k7 c0 c1 c2 c3;obtain ⟨X,hX⟩: ∃X,X=W0.heap.size:=⟨_,rfl⟩;rw [←hX]at A1⊢;have Hx:X≠K:=by have:=X0.o.size;omega
 have HF:=ae ((HH.o.ext X0.o).ext x1);have HX:=ae A1;have HB:=ae (zR.o.ext x1);have kO:Hid (ar K V W1):=(X0.o.trans x1).but K;have fS:Hid (Ext w0 W1):=(HV.o.trans X0.o).trans x1;clear hX A1 Z1 x1 HH zR X0 wC qK f_ fU;obtain ⟨e1,he⟩: ∃e',e'=gP e x.name prev:=⟨_,rfl⟩;have yL:=ae he;clear he;go_upto_region 2 with fail
 go_cut [] (fun wx=>FE wx K e1∧ar K W1 wx∧aJ wx B 32 c.cells∧aJ wx X 87 x.cells)
 case first=>
  as_aux_lemma=>
   obtain ⟨k0,k1,k2,k3,k4,k5,k6,k7⟩:=ai.at HB.o;go_wp2_with fail
   refine (k9 w0 W1 K c _ 6 i prev _ x.name VK.o (by decide) kN.o uF.o cX.o fS.o et.o pO.o HF.o).mono ?_;rintro e w2 ⟨rfl,hf,hx⟩;have jP:ar K W1 w2:=hx;have hf':FE w2 K e1:=by(rw [yL.o];exact hf)
   have hA':=HX.o.but hx Hx;have ll:=HB.o.but hx fP
   have HR:=ae (And.intro hf' (And.intro jP (And.intro ll hA')));clear hf hx hf' jP hA' ll k0 k1 k2 k3 k4 k5 k6 k7;go_wp2_with fail
   go_meet
   exact HR.o
 case rest=>
  obtain ⟨hF,hx,ll,hA'⟩:=hcut;generalize wc=V1 at*;have HF:=ae hF;have HB:=ae ll;have HX:=ae hA'
  have kO:=ae (kO.o.trans hx);have fS:=ae (hx.ext fS.o cX.o)
  clear hF hx ll hA';obtain ⟨e2,he⟩: ∃e',e'=nd e1 (bk 1 2 [(x.lines.length:Int)]) 4:=⟨_,rfl⟩;have wE:=ae he;clear he;go_upto_region 3 with fail
  go_cut [] (fun wx=>FE wx K e2∧ar K V1 wx∧aJ wx B 32 c.cells∧aJ wx X 87 x.cells)
  case first=>
   as_aux_lemma=>
    have c1:=HX.o.cl 1 (.slice x.la x.lines.length x.lc) rfl;have PE:=QC.o;go_wp2_with fail
    refine (yD V1 (x.lines.length:Int) 1 2 wA.o).mono ?_;rintro e w1 ⟨rfl,rfl⟩;go_wp2_with fail
    refine (cf _ K _ _ _ _ _ _ (HF.o.alloc _)).mono ?_;rintro e w2 ⟨rfl,hf,hx⟩;have jP:ar K V1 w2:=((ar.refl K V1).alloc' _).trans hx;have hf':FE w2 K e2:=by(rw [wE.o];exact hf)
    have hA':=(HX.o.alloc' _).but hx Hx;have ll:=(HB.o.alloc' _).but hx fP
    have HR:=ae (And.intro hf' (And.intro jP (And.intro ll hA')));clear hf hx hf' jP hA' ll c1;go_wp2_with fail
    go_meet
    exact HR.o
  case rest=>
   obtain ⟨hF,hx,ll,hA'⟩:=hcut;generalize wc=V2 at*;have HF:=ae hF;have HB:=ae ll;have HX:=ae hA'
   have kO:=ae (kO.o.trans hx);have fS:=ae (hx.ext fS.o cX.o)
   clear hF hx ll hA';obtain ⟨e3,he⟩: ∃e',e'=nd e2 (bk 0 ((c.lines.length:Int)-1) x.lines) 12:=⟨_,rfl⟩;have yM:=ae he;clear he;go_upto_region 4 with fail
   go_cut [] (fun wx=>FE wx K e3∧ar K V2 wx∧aJ wx B 32 c.cells∧aJ wx X 87 x.cells)
   case first=>
    as_aux_lemma=>
     obtain ⟨k0,k1,k2,k3,k4,k5,k6,k7⟩:=ai.at HB.o;have c1:=HX.o.cl 1 (.slice x.la x.lines.length x.lc) rfl;have hwl:=HWL.o;have Kf:=VL.o
     go_wp2_with fail
     refine (eI _ _ _ x.la x.lc x.lines (qL.o.ext fS.o)).mono ?_;rintro e w1 ⟨rfl,fK⟩;rw [fK];clear fK;go_wp2_with fail
     refine (cf _ K _ _ _ _ _ _ HF.o).mono ?_;rintro e w2 ⟨rfl,hf,hx⟩;have jP:ar K V2 w2:=hx;have hf':FE w2 K e3:=by(rw [yM.o];exact hf)
     have hA':=HX.o.but hx Hx;have ll:=HB.o.but hx fP
     have HR:=ae (And.intro hf' (And.intro jP (And.intro ll hA')));clear hf hx hf' jP hA' ll k0 k1 k2 k3 k4 k5 k6 k7 c1;go_wp2_with fail
     go_meet
     exact HR.o
   case rest=>
    obtain ⟨hF,hx,ll,hA'⟩:=hcut;generalize wc=V3 at*;have HF:=ae hF;have HB:=ae ll;have HX:=ae hA'
    have kO:=ae (kO.o.trans hx);have fS:=ae (hx.ext fS.o cX.o)
    clear hF hx ll hA';obtain ⟨e4,he⟩: ∃e',e'=nd e3 (g_ x.lines) 11:=⟨_,rfl⟩;have uG:=ae he;clear he;go_upto_region 5 with fail
    go_cut [] (fun wx=>FE wx K e4∧ar K V3 wx∧aJ wx B 32 c.cells∧aJ wx X 87 x.cells)
    case first=>
     as_aux_lemma=>
      have c1:=HX.o.cl 1 (.slice x.la x.lines.length x.lc) rfl;go_wp2_with fail
      refine (oQ _ x.la x.lc x.lines (qL.o.ext fS.o)).mono ?_;rintro e w1 ⟨rfl,x1⟩;have c1:=aj x1 c1;go_wp2_with fail
      refine (cf _ K _ _ _ _ _ _ (HF.o.ext x1)).mono ?_;rintro e w2 ⟨rfl,hf,hx⟩;have jP:ar K V3 w2:=(x1.but K).trans hx;have hf':FE w2 K e4:=by(rw [uG.o];exact hf)
      have hA':=(HX.o.ext x1).but hx Hx;have ll:=(HB.o.ext x1).but hx fP
      have HR:=ae (And.intro hf' (And.intro jP (And.intro ll hA')));clear hf hx hf' jP hA' ll c1;go_wp2_with fail
      go_meet
      exact HR.o
    case rest=>
     obtain ⟨hF,hx,ll,hA'⟩:=hcut;generalize wc=V4 at*;have HF:=ae hF;have HB:=ae ll;have HX:=ae hA'
     have kO:=ae (kO.o.trans hx);have fS:=ae (hx.ext fS.o cX.o)
     clear hF hx ll hA'
     as_aux_lemma=>
      obtain ⟨e5,he⟩: ∃e',e'=nd e4 (x.bC||decide (x.moves.length=0)) 16:=⟨_,rfl⟩;have Ml:=ae he;clear he;go_upto_region 6 with fail
      go_cut [] (fun wx=>FE wx K e5∧ar K V4 wx∧aJ wx B 32 c.cells∧aJ wx X 87 x.cells)
      case first=>
       as_aux_lemma=>
        have c2:=HX.o.cl 2 (.bool x.bC) rfl;have c3:=HX.o.cl 3 (.slice x.ma x.moves.length x.mc) rfl;have hz:Hid (((x.moves.length:Int)==0)=decide (x.moves.length=0)):=by(show _=_;rw [Bool.eq_iff_iff];simp;try omega)
        rcases Bool.eq_false_or_eq_true x.bC with hp|hp
        ·have HP:=ae hp
         clear hz;go_wp2_with fail
         refine (cf _ K _ _ _ _ _ _ HF.o).mono ?_;rintro e w2 ⟨rfl,hf,hx⟩;have jP:ar K V4 w2:=hx;have hf':FE w2 K e5:=by(rw [Ml.o];rw [HP.o,Bool.true_or];exact hf)
         have hA':=HX.o.but hx Hx;have ll:=HB.o.but hx fP
         have HR:=ae (And.intro hf' (And.intro jP (And.intro ll hA')));clear hf hx hf' jP hA' ll c2 c3;go_wp2_with fail
         go_meet
         exact HR.o
        ·have HP:=ae hp
         have hq:((x.moves.length:Int)==0)=decide (x.moves.length=0):=hz.o;clear hz;go_wp2_with fail
         refine (cf _ K _ _ _ _ _ _ HF.o).mono ?_;rintro e w2 ⟨rfl,hf,hx⟩;have jP:ar K V4 w2:=hx;have hf':FE w2 K e5:=by(rw [Ml.o];rw [HP.o,Bool.false_or];simpa using hf)
         have hA':=HX.o.but hx Hx;have ll:=HB.o.but hx fP
         have HR:=ae (And.intro hf' (And.intro jP (And.intro ll hA')));clear hf hx hf' jP hA' ll c2 c3;go_wp2_with fail
         go_meet
         exact HR.o
      case rest=>
       obtain ⟨hF,hx,ll,hA'⟩:=hcut;generalize wc=V5 at*;have HF:=ae hF;have HB:=ae ll;have HX:=ae hA'
       have kO:=ae (kO.o.trans hx);have fS:=ae (hx.ext fS.o cX.o)
       clear hF hx ll hA';obtain ⟨e6,he⟩: ∃e',e'=nd e5 (decide ((x.moves.length:Int)≤16)) 8:=⟨_,rfl⟩;have Nr:=ae he;clear he;go_upto_region 7 with fail
       go_cut [] (fun wx=>FE wx K e6∧ar K V5 wx∧aJ wx B 32 c.cells∧aJ wx X 87 x.cells)
       case first=>
        as_aux_lemma=>
         have c3:=HX.o.cl 3 (.slice x.ma x.moves.length x.mc) rfl;have QD:=Ke.o;go_wp2_with fail
         refine (cf _ K _ _ _ _ _ _ HF.o).mono ?_;rintro e w2 ⟨rfl,hf,hx⟩;have jP:ar K V5 w2:=hx;have hf':FE w2 K e6:=by(rw [Nr.o];exact hf)
         have hA':=HX.o.but hx Hx;have ll:=HB.o.but hx fP
         have HR:=ae (And.intro hf' (And.intro jP (And.intro ll hA')));clear hf hx hf' jP hA' ll c3;go_wp2_with fail
         go_meet
         exact HR.o
       case rest=>
        obtain ⟨hF,hx,ll,hA'⟩:=hcut;generalize wc=V6 at*;have HF:=ae hF;have HB:=ae ll;have HX:=ae hA'
        have kO:=ae (kO.o.trans hx);have fS:=ae (hx.ext fS.o cX.o)
        clear hF hx ll hA';have x3:=HX.o.cl 3 (.slice x.ma x.moves.length x.mc) rfl;have QD:=Ke.o;go_wp2_with fail
        clear x3;go_loopw [8,73] (fun v ii wr=> ∃i:Nat,i≤x.moves.length∧aN wr V6.heap.size 3 1 v ((x.moves.take i).map fun m=> [i64 m.unit])∧Ext V6 wr∧ii= .int .i64 i) (fun _ ii _=>x.moves.length-(intOf ii).toNat)
        case atStart=>exact ⟨0,Nat.zero_le _,aN.nil _ _ _ _,Ext.refl _,rfl⟩
        case round=>
         obtain ⟨i,hi,hown,hE,rfl⟩:=hrel;have HO:=ae hown;clear hown;by_cases hlt:i<x.moves.length
         ·obtain ⟨b,o,ha,m0,m1,m2⟩:=((Ud.o.ext fS.o).ext hE).moves i hlt
          have HST:Hid ((x.moves.take (i+1)).map (fun m=> [i64 m.unit])=(x.moves.take i).map (fun m=> [i64 m.unit])++ [[i64 x.moves[i].unit]]):=by
             show _=_;rw [List.take_succ_eq_append_getElem hlt,List.map_append];rfl
          have HLEN:Hid (((x.moves.take i).map fun m=> [i64 m.unit]).length=i):=by show _=_;simp;omega
          generalize (x.moves.take i).map (fun m=> [i64 m.unit])=rows at*;obtain ⟨g,hg⟩: ∃g,g=x.moves[i]:=⟨_,rfl⟩;rw [←hg]at m0 m1 m2 HST;have f_:(0:Int)≤(i:Int):=by omega
          have fU:(i:Int)<(x.moves.length:Int):=by omega
          have qK:=ae ha;have vX:=hE.size;have HE:=ae hE
          have HOW:Hid (wr.ownsRow V6.heap.size 3 1 u8 i rows.flatten):=by
             have h5:=HO.o.own;rw [HLEN.o]at h5;exact h5
          clear ha hg hE;rw [qK.o];go_upto_region 12 with fail
          obtain ⟨W2,hW2,x2,Z2,A2⟩:=aH wr 140 g.cells;rw [show wr.alloc (.cells #[i64 g.unit,i64 g.up,i64 g.down] 140)=W2 from hW2.symm];clear hW2;obtain ⟨E,lh⟩: ∃E,E=wr.heap.size:=⟨_,rfl⟩;rw [←lh]at A2⊢;have z0:W2.cell? ⟨E,0,none⟩=some (i64 g.unit):=(A2.cell 0).trans rfl;have h2s:=x2.size;have fg:=ae x2;clear lh Z2 A2 m0 m1 m2 x2;go_wp2_with (at_builtin;refine pN _ rfl (.tmp 77) (.tmp 80) 22 rfl V6.heap.size 3 (.int .i64 0) 1 8 underlying22 Tryz.info_int rfl (by decide) u8 i rows.flatten rfl ?c1 (some ⟨W2.heap.size,0,none⟩) 1 1 [i64 g.unit] rfl rfl ?c2 ?c3 ?c4 ?c5 ?c7 ?c6 ?_;rotate_right;intro v1 w5 ho he hb hz hv)
          case c1=>exact bq (bq HOW.o fg.o) ((Ext.refl _).alloc _)
          case c2=>exact fun _=>⟨_,rfl,cu W2 3 [i64 g.unit]⟩
          case c3=>intro u hu;rw [List.mem_singleton]at hu;subst hu;rfl
          case c4=>intro e;cases e
          case c5=>omega
          case c7=>have:=PD.o;omega
          case c6=>simp;omega
          have x5:Ext V6 w5:=he.o V6 ((HE.o.trans fg.o).alloc _) (Nat.le_refl _);have i5:=HO.o.snoc (w':=w5) (v':=v1) (r:= [i64 g.unit]) rfl (by rw [HLEN.o];exact ho.o);rw [←HST.o]at i5;exact ⟨⟨i+1,by omega,i5,x5,by go_num⟩,by simp only [intOf];omega⟩
         ·obtain rfl:i=x.moves.length:=by omega
          rw [List.take_length]at HO;obtain ⟨ua,uc,rfl,hS,jU⟩:=HO.o.recs (by decide);have e1:(x.moves.map fun m=> [i64 m.unit])=(x.moves.map bE.unit).map fun z=> [i64 z]:=by rw [List.map_map];rfl
          rw [e1]at hS;have VM:aD wr ua uc (x.moves.map bE.unit):=aD.nk hS HMU.o;obtain ⟨us,Ue⟩: ∃us,us=x.moves.map bE.unit:=⟨_,rfl⟩;have QE:=ae Ue;rw [←Ue]at VM;have jv:(x.moves.map fun m=> [i64 m.unit]).length=us.length:=by rw [Ue,List.length_map,List.length_map]
          rw [jv]
          have Zr: ∀p,ua=some p→p.block≠K:=fun p hp=>by
             have h1:=jU p hp;have h2:=HF.o.lt
             omega
          have HUN:=ae Zr;have sj:=ae (HF.o.ext hE);have CU:=ae (HB.o.ext hE);have fJ:=ae (HX.o.ext hE)
          have Aw:=ae (fS.o.trans hE);have Ax:=ae (kO.o.trans (hE.but K));have KT:=ae VM
          clear HF HB HX fS kO;have HF:=sj;have HB:=CU;have HX:=fJ;have fS:=Aw;have kO:=Ax
          clear sj CU fJ Aw Ax hS e1 HO VM Ue hE jv QD hi hlt Zr jU;obtain ⟨-,-,-,-,k4,-,-,-⟩:=ai.at HB.o;have Zs:=HWU.o;have hl2:=Kd.o
          obtain ⟨e7,he⟩: ∃e',e'=nd e6 (bk 0 ((c.au.length:Int)-1) us) 12:=⟨_,rfl⟩;have Ns:=ae he;clear he;go_wp2_with fail
          refine (eI _ _ _ ua uc us KT.o).mono ?_;rintro e5 w1 ⟨rfl,rfl⟩;clear Zs hl2;go_wp2_with fail
          refine (cf _ K _ _ _ _ _ _ HF.o).mono ?_;rintro e5 W6 ⟨rfl,KS,kU⟩;rw [←Ns.o]at KS;have QF:Hid (aD W6 ua uc us):=KT.o.dA kU HUN.o;have Zt:=ae KS;have GN:Hid (aJ W6 X 87 x.cells):=HX.o.but kU Hx
          have QG:=ae (kO.o.trans kU);obtain ⟨e8,he⟩: ∃e',e'=nd e7 (g_ us) 11:=⟨_,rfl⟩;have Zu:=ae he;clear he KS kU k4 HF HX kO fS HB KT;go_wp2_with fail
          refine (oQ _ ua uc us QF.o).mono ?_;rintro e5 w7 ⟨rfl,x7⟩;go_wp2_with fail
          refine (cf _ K _ _ _ _ _ _ (Zt.o.ext x7)).mono ?_;rintro e5 W8 ⟨rfl,VN,jD⟩;rw [←Zu.o]at VN;have HF:=ae VN;have HX:Hid (aJ W8 X 87 x.cells):=(GN.o.ext x7).but jD Hx
          have kO:=ae ((QG.o.trans (x7.but K)).trans jD);clear VN jD x7 Zt GN QG QF;have x3:=HX.o.cl 3 (.slice x.ma x.moves.length x.mc) rfl;have QD:=Ke.o;go_wp2_with fail
          clear x3 QD;go_loopw [102] (fun ii wr=> ∃i:Nat,i≤x.moves.length∧FE wr K (nd e8 ((x.moves.take i).all wu) 3)∧ar K V wr∧ii= .int .i64 i) (fun ii _=>x.moves.length-(intOf ii).toNat)
          case atStart=>exact ⟨0,Nat.zero_le _,by simpa [bI]using HF.o,kO.o,rfl⟩
          case round=>
             obtain ⟨i,hi,hF,hX,rfl⟩:=hrel;clear HF kO HX;have QD:=Ke.o;by_cases hlt:i<x.moves.length
             ·have hE:=hX.ext HV.o cX.o
              obtain ⟨b,o,ha,m0,m1,m2⟩:=(Ud.o.ext hE).moves i hlt;have HT:=ae (CX x.moves i hlt);have GM:=PC.o x.moves[i] (List.getElem_mem hlt);generalize (x.moves.take i).all wu=q at*;obtain ⟨g,hg⟩: ∃g,g=x.moves[i]:=⟨_,rfl⟩;rw [←hg]at m0 m1 m2 HT GM;have VO:=ae (GM g.up (by simp));have VP:=ae (GM g.down (by simp))
              have HF:=ae hF;have HX:=ae hX;have Uc:=ae (mI e8 q (wu g) 3 (by decide))
              have qK:=ae ha;have f_:(0:Int)≤(i:Int):=by omega
              have fU:(i:Int)<(x.moves.length:Int):=by omega
              clear hF hX hE hg GM ha;rw [qK.o];go_upto_region 19 with fail
              obtain ⟨W2,hW2,x2,Z2,A2⟩:=aH wr 140 g.cells;rw [show wr.alloc (.cells #[i64 g.unit,i64 g.up,i64 g.down] 140)=W2 from hW2.symm];clear hW2;obtain ⟨E,lh⟩: ∃E,E=wr.heap.size:=⟨_,rfl⟩;rw [←lh]at A2⊢;have z1:W2.cell? ⟨E,1,none⟩=some (i64 g.up):=(A2.cell 1).trans rfl;have z2:W2.cell? ⟨E,2,none⟩=some (i64 g.down):=(A2.cell 2).trans rfl;have CT:=ae (HF.o.ext x2);have fg:Hid (ar K V W2):=HX.o.trans (x2.but K)
              clear lh Z2 A2 m0 m1 m2 x2;go_wp2_with fail
              refine (VJ W2 g.up g.down 0 1048576 VO.o VP.o).mono ?_;rintro e6 w1 ⟨rfl,rfl⟩;go_wp2_with fail
              refine (cf _ K _ _ _ _ _ _ (CT.o.alloc _)).mono ?_;rintro e6 W4 ⟨rfl,Hk,j8⟩;have Mf:=ae Hk;have qX:Hid (ar K V W4):=(fg.o.alloc' _).trans j8;clear Hk j8 z1 z2;go_wp2_with fail
              exact ⟨⟨i+1,by omega,by rw [HT.o,←Uc.o];exact Mf.o,qX.o,by go_num⟩,by simp only [intOf];omega⟩
             ·obtain rfl:i=x.moves.length:=by omega
              rw [List.take_length]at hF;have HF:=ae hF;have HX:=ae hX
              clear hF hX;go_wp2_with fail
              exact bodyPost_end (v:= .tuple #[]) (by simp [results,results61,go_sem]) rfl ⟨rfl,by rw [←QE.o,←yL.o,←wE.o,←yM.o,←uG.o,←Ml.o,←Nr.o,←Ns.o,←Zu.o];exact HF.o,HX.o⟩
structure oW (c:ai):Prop where
 ak:c.ak.length≤1000000
 lines:c.lines.length≤1000000
 au:c.au.length≤1000000
 stores:c.stores.length≤1000000
 aL:c.aL.length≤1000000
 outs:c.outs.length≤1000000
 moves: ∀o∈c.outs,o.moves.length≤5900000000000
theorem oW.names {c:ai} (h:oW c) (k:Int):(dx c k).length≤1000000:=by
 unfold dx;have h1:=h.ak;have h2:=h.lines;have h3:=h.au;have h4:=h.stores;have h5:=h.aL;have h6:=h.outs
 repeat' split
 all_goals simp
 all_goals assumption
def jF (c:ai) (e:Int) (n:Nat):Int:=(List.range n).foldl (fun e (j:Nat)=>nd e (decide (((dx c ((j:Int)+2)).length:Int)≤lU ((j:Int)+2))) 8) e
theorem eZ (c:ai) (e:Int) (n:Nat):jF c e (n+1)=nd (jF c e n) (decide (((dx c ((n:Int)+2)).length:Int)≤lU ((n:Int)+2))) 8:=by
 unfold jF;rw [List.range_succ,List.foldl_append];rfl
def iT (c:ai) (e:Int):Int:=jF c (nd (fl (nd e (bk 1 24 [c.hours]) 3) c c.aV 0 1048576) (bk 1 32 [(c.ak.length:Int)]) 8) 5
theorem Fw (w0 V:World) (K:Nat) (c:ai) (e:Int) (hK:w0.heap.size≤K) (hV:Ext w0 V) (hc:aS w0 c) (hl:oW c) (h:FE V K e):
 Calls prog 52 #[.pointer (some ⟨K,0,none⟩),.agg (C8 c)] V fun e' w'=>qT V K (iT c e) e' w':=by
 try unfold C8
 have J9:=h.lt;have hbl:c.ak.length≤9223372036854775807:=by have:=hl.ak;omega
 unfold iT;obtain ⟨e1,Cu⟩: ∃e1,e1=nd e (bk 1 24 [c.hours]) 3:=⟨_,rfl⟩;obtain ⟨e2,J_⟩: ∃e2,e2=fl e1 c c.aV 0 1048576:=⟨_,rfl⟩;obtain ⟨e3,Mi⟩: ∃e3,e3=nd e2 (bk 1 32 [(c.ak.length:Int)]) 8:=⟨_,rfl⟩;rw [←Cu,←J_,←Mi];have yL:=ae Cu;have wE:=ae J_;have yM:=ae Mi
 have Nt:=ae hc.hours;have Nu:=ae (xE hbl);have GP:=ae hc.aV
 have et:=ae hc;have HV:=ae hV;have cX:=ae hK;have HH:=ae h;have HLE:=ae hl
 clear Cu J_ Mi hc hV hK h hl;go_enter func52,ntmps52
 go_upto_region 1 with fail
 obtain ⟨W0,hW,x0,Z0,A0⟩:=aH V 32 c.cells;rw [show V.alloc (.cells (C8 c) 32)=W0 from hW.symm];clear hW;obtain ⟨B,hB⟩: ∃B,B=V.heap.size:=⟨_,rfl⟩;rw [←hB]at A0⊢;have fP:B≠K:=by omega
 have HF:=ae (HH.o.ext x0);have HB:=ae A0;have kO:=ae (x0.but K);have fS:=ae (HV.o.trans x0)
 clear A0 Z0 x0 hB HH;obtain ⟨k0,-⟩:=ai.at HB.o;go_wp2_with fail
 refine (yD W0 c.hours 1 24 Nt.o).mono ?_;rintro e' w1 ⟨rfl,rfl⟩;go_wp2_with fail
 refine (cf _ K _ _ _ _ _ _ (HF.o.alloc _)).mono ?_;rintro e' W1 ⟨rfl,hf,hx⟩;rw [←yL.o]at hf;have sj:=ae hf;have CU:=ae ((HB.o.alloc' _).but hx fP);have jP:=((ar.refl K W0).alloc' _).trans hx
 have Ax:=ae (kO.o.trans jP);have Aw:=ae (jP.ext fS.o cX.o)
 clear hf hx jP k0 HF HB kO fS;obtain ⟨k0,k1,k2,k3,k4,k5,k6,k7⟩:=ai.at CU.o;go_wp2_with fail
 refine (oU w0 W1 K c _ c.ra c.rc c.aV _ _ _ _ _ cX.o Aw.o GP.o sj.o).mono ?_;rintro e' W2 ⟨rfl,hf,hx⟩;rw [←wE.o]at hf;have HF:=ae hf;have HB:=ae (CU.o.but hx fP)
 have kO:=ae (Ax.o.trans hx);have fS:=ae (hx.ext Aw.o cX.o)
 clear hf hx k0 k1 k2 k3 k4 k5 k6 k7 sj CU Ax Aw;obtain ⟨-,-,k2,-⟩:=ai.at HB.o;go_wp2_with fail
 refine (yD W2 (c.ak.length:Int) 1 32 Nu.o).mono ?_;rintro e' w1 ⟨rfl,rfl⟩;go_wp2_with fail
 refine (cf _ K _ _ _ _ _ _ (HF.o.alloc _)).mono ?_;rintro e' W3 ⟨rfl,hf,hx⟩;rw [←yM.o]at hf;have sj:=ae hf;have CU:=ae ((HB.o.alloc' _).but hx fP);have jP:=((ar.refl K W2).alloc' _).trans hx
 have Ax:=ae (kO.o.trans jP);have Aw:=ae (jP.ext fS.o cX.o)
 clear hf hx jP k2 HF HB kO fS hbl;go_wp2_with fail
 go_loopw [4] (fun ii wr=> ∃n:Nat,n≤5∧FE wr K (jF c e3 n)∧ar K V wr∧aJ wr B 32 c.cells∧ii= .int .i64 ((n:Int)+2)) (fun ii _=>(7-intOf ii).toNat)
 case atStart=>exact ⟨0,by omega,sj.o,Ax.o,CU.o,rfl⟩
 case round=>
  obtain ⟨n,hn,hF,hX,hB,rfl⟩:=hrel;clear sj Ax CU Aw;by_cases hlt:n<5
  ·have HF:=ae hF;have HX:=ae hX;have HB:=ae hB
   have fS:=ae (hX.ext HV.o cX.o);have HS:=ae (eZ c e3 n);obtain ⟨vY,Ct⟩: ∃vY,dx c ((n:Int)+2)=vY:=⟨_,rfl⟩;have PF:vY.length≤1000000:=by rw [←Ct];exact HLE.o.names _
   have CO:=ae Ct;rw [Ct]at HS;have VQ:=ae (fun U=>Hm U ((n:Int)+2) (by omega));have HNA:=ae (xv w0 wr c ((n:Int)+2) vY Ct (by omega) fS.o et.o PF);generalize lU ((n:Int)+2)=mo at*;generalize jF c e3 n=e4 at*;obtain ⟨k0,k1,k2,k3,k4,k5,k6,k7⟩:=ai.at hB;clear hF hX hB Ct;go_wp2_with fail
   refine HNA.o.mono ?_;rintro e' w1 ⟨a,cap,rfl,hS,x1,-⟩;have fJ:=ae x1;clear k0 k1 k2 k3 k4 k5 k6 k7 hS x1;go_wp2_with fail
   refine (VQ.o w1).mono ?_;rintro e' w2 ⟨rfl,x2⟩;have fg:=ae (fJ.o.trans x2);clear x2;go_wp2_with fail
   refine (cf w2 K _ _ _ _ _ _ (HF.o.ext fg.o)).mono ?_;rintro e' w3 ⟨rfl,hf,hx⟩;rw [←HS.o]at hf;have HR:=ae hf;have tU:=ae ((HB.o.ext fg.o).but hx fP);have sq:=ae (HX.o.trans ((fg.o.but K).trans hx));clear hf hx;go_wp2_with fail
   exact ⟨⟨n+1,by omega,HR.o,sq.o,tU.o,by go_num⟩,by simp only [intOf];omega⟩
  ·obtain rfl:n=5:=by omega
   go_wp2_with fail
   exact bodyPost_end (v:= .tuple #[]) (by simp [results,results52,go_sem]) rfl ⟨rfl,hF,hX⟩
def rf (c:ai) (i:Nat):List Int:=(c.lines[i]?.map aP.away).getD []
theorem xF {c:ai} {i:Nat} (h:i<c.lines.length):rf c i=c.lines[i].away:=by unfold rf;rw [List.getElem?_eq_getElem h];rfl
def cC (c:ai) (h:Int) (n:Nat):List Nat:=(List.range n).filter fun i=> !hasB (rf c i) h
theorem su (c:ai) (h:Int) (n:Nat):cC c h (n+1)=if hasB (rf c n) h=true then cC c h n else cC c h n++ [n]:=by
 unfold cC;rw [List.range_succ,List.filter_append];cases q:hasB (rf c n) h<;>simp [q]
theorem h_ (c:ai) (h:Int) (n:Nat):(cC c h n).length≤n:=by
 have:=List.length_filter_le (fun i=> !hasB (rf c i) h) (List.range n);rw [List.length_range]at this;exact this
theorem jd (c:ai) (h:Int) (n:Nat): ∀i∈cC c h n,i<n:=fun i hi=>List.mem_range.1 (List.mem_filter.1 hi).1
def fo (l:List Nat):List (List Value):=l.map fun(j:Nat)=> [i64 (j:Int)]
theorem lX (l:List Nat) (n:Nat):fo (l++ [n])=fo l++ [[i64 (n:Int)]]:=by simp [fo]
theorem dB (l:List Nat):(fo l).length=l.length:=by simp [fo]
def bU (l:List Nat):List Int:=l.map fun(j:Nat)=>(j:Int)
theorem lY (l:List Nat):fo l=(bU l).map fun z=> [i64 z]:=by simp [fo,bU]
theorem np {l:List Nat} {n:Nat} (h: ∀i∈l,i<n) (hn:n≤9223372036854775807):gl (bU l):=fun z hz=>by
 obtain ⟨j,hj,rfl⟩:=List.mem_map.1 hz;have:=h j hj;unfold bp;omega
theorem cq (l:List Nat):(bU l).length=l.length:=by simp [bU]
theorem wF (w0 V:World) (c:ai) (h:Int) (hV:Ext w0 V) (hc:aS w0 c) (hn:c.lines.length≤1000000):
 Calls prog 103 #[.agg (C8 c),i64 h] V fun e w'=> ∃a cap,e= .returned (.slice a (cC c h c.lines.length).length cap)∧aD w' a cap (bU (cC c h c.lines.length))∧Ext V w'∧Fr V.heap.size a:=by
 try unfold C8
 have hr:=hc.lines;have hle:=hr.le;have dy:=hr.cap
 rw [List.length_map]at hle;have HR:=ae hr;have HV:=ae hV;have HN:=ae hn;have Mm:=ae hc.line
 clear hc hr hV hn;go_enter func103,ntmps103
 go_upto_region 1 with fail
 obtain ⟨W,hW,x0,Z0,A0⟩:=aH V 32 c.cells;rw [show V.alloc (.cells (C8 c) 32)=W from hW.symm];clear hW;have HA:=ae A0;have HX:=ae x0
 obtain ⟨B,hB⟩: ∃B,B=V.heap.size:=⟨_,rfl⟩;rw [←hB]at HA⊢;clear A0 x0 Z0;have wC:=ae hB;clear hB;go_wp2_with fail
 go_loopw [5,6] (fun v ii wr=> ∃i:Nat,i≤c.lines.length∧aN wr W.heap.size 3 1 v (fo (cC c h i))∧Ext W wr∧ii= .int .i64 i) (fun _ ii _=>c.lines.length-(intOf ii).toNat)
 case atStart=>exact ⟨0,Nat.zero_le _,aN.nil _ _ _ _,Ext.refl _,rfl⟩
 case round=>
  obtain ⟨i,hi,hown,hE,rfl⟩:=hrel;have HO:=ae hown;obtain ⟨-,-,-,k3,-⟩:=ai.at (HA.o.ext hE);clear hown;by_cases hlt:i<c.lines.length
  ·obtain ⟨b,o,ha,-,-,-,-,-,-,-,-,-,-,-,c11⟩:=((HR.o.ext HV.o).ext (HX.o.trans hE)).lines i hlt
   have PG:=(Mm.o c.lines[i] (List.getElem_mem hlt)).2.1;have HST:=ae (su c h i);have ln:=ae (yC wr _ _ _ h ((PG.ext HV.o).ext (HX.o.trans hE)));rw [xF hlt]at HST;generalize c.lines[i]=x at*;have HLEN:=ae (h_ c h i);generalize cC c h i=l at*;rw [ha]at k3;have f_:(0:Int)≤(i:Int):=by omega
   have fU:(i:Int)<(c.lines.length:Int):=by omega
   have HE:=ae hE;have vX:=hE.size
   clear ha hE PG;rcases Bool.eq_false_or_eq_true (hasB x.away h)with hq|hq
   ·rw [hq]at ln HST
    clear hq;go_wp2_with fail
    refine ln.o.mono ?_;rintro e w1 ⟨rfl,fK⟩;rw [fK];clear fK
    go_wp2_with fail
    exact ⟨⟨i+1,by omega,by rw [HST.o];simpa using HO.o,HE.o,by go_num⟩,by simp only [intOf];omega⟩
   ·rw [hq]at ln HST
    clear hq
    have HOW:Hid (wr.ownsRow W.heap.size 3 1 u5 l.length (fo l).flatten):=by
     have h5:=HO.o.own;rw [dB]at h5;exact h5
    go_wp2_with fail
    refine ln.o.mono ?_;rintro e w1 ⟨rfl,fK⟩;rw [fK];clear fK
    go_wp2_with (at_builtin;refine aW _ rfl (.tmp 23) (.tmp 25) 22 rfl W.heap.size 3 (.int .i64 0) 1 8 underlying22 Tryz.info_int rfl (by decide) u5 l.length (fo l).flatten rfl ?c1 (some ⟨wr.heap.size,0,none⟩) 1 1 [i64 (i:Int)] rfl rfl ?c2 ?c3 ?c4 ?c5 (by decide) ?c6 ?_;rotate_right;intro v1 w5 ho he hb hz hv)
    case c1=>exact bq HOW.o ((Ext.refl _).alloc _)
    case c2=>exact fun _=>⟨_,rfl,cu wr 3 [i64 (i:Int)]⟩
    case c3=>intro u hu;rw [List.mem_singleton]at hu;subst hu;rfl
    case c4=>intro e;cases e
    case c5=>have:=HN.o;have:=HLEN.o;omega
    case c6=>have:=vX;simp;omega
    have x5:Ext W w5:=he.o W (HE.o.alloc _) (Nat.le_refl _);have i5:=HO.o.snoc (w':=w5) (v':=v1) (r:= [i64 (i:Int)]) rfl (by rw [dB];exact ho.o);rw [←lX]at i5;exact ⟨⟨i+1,by omega,by rw [HST.o];simpa using i5,x5,by go_num⟩,by simp only [intOf];omega⟩
  ·obtain rfl:i=c.lines.length:=by omega
   obtain ⟨a,cap,rfl,hS,jU⟩:=HO.o.recs (by decide);rw [dB];rw [lY]at hS;have HI:=ae (aD.nk hS (np (jd c h _) (by omega)));have tQ:=ae jU;clear hS jU HO;go_wp2_with fail
   go_ret;exact ⟨a,cap,rfl,HI.o,HX.o.trans hE,tQ.o.mono HX.o.size⟩
def wH (l:List Int) (n:Nat):Nat:=(List.range n).countP fun b=>aR l b==(b:Int)
theorem Fx (l:List Int) (n:Nat):wH l (n+1)=wH l n+if(aR l n==(n:Int))=true then 1 else 0:=by
 unfold wH;rw [List.range_succ,List.countP_append,List.countP_singleton]
theorem KU (l:List Int) (n:Nat):wH l n≤n:=by
 unfold wH;have:=List.countP_le_length (p:=fun b:Nat=>aR l b==(b:Int)) (l:=List.range n);rw [List.length_range]at this;exact this
theorem xG (w:World) (a:Option Addr) (c:Nat) (l:List Int) (h:aD w a c l):
 Calls prog 104 #[.slice a l.length c] w fun e w'=>e= .returned (i64 (wH l l.length))∧w'=w:=by
 have hle:=h.le;have dy:=h.cap
 have HL:=ae h;clear h;go_enter func104,ntmps104
 go_wp2_with fail
 go_loopw [3,4] (fun nn ii wr=> ∃i:Nat,i≤l.length∧wr=w∧nn= .int .i64 (wH l i)∧ii= .int .i64 i) (fun _ ii _=>l.length-(intOf ii).toNat)
 case atStart=>exact ⟨0,Nat.zero_le _,rfl,rfl,rfl⟩
 case round=>
  obtain ⟨i,hi,hw,rfl,rfl⟩:=hrel;subst hw;by_cases hlt:i<l.length
  ·obtain ⟨b,o,rfl,c0⟩:=HL.o.cell i hlt
   rw [←df hlt]at c0;have HC:=ae (Fx l i);have Kg:=KU l i;generalize wH l i=q at*;obtain ⟨x,hx⟩: ∃x,x=aR l i:=⟨_,rfl⟩;rw [←hx]at c0 HC;clear hx;have f_:(0:Int)≤(i:Int):=by omega
   have fU:(i:Int)<(l.length:Int):=by omega
   rcases Bool.eq_false_or_eq_true (x==(i:Int))with hq|hq
   ·have HQ:=ae hq
    go_wp2_with fail
    exact ⟨⟨i+1,by omega,by first|trivial|rfl,by rw [HC.o,HQ.o,if_pos rfl];go_num,by go_num⟩,by simp only [intOf];omega⟩
   ·have HQ:=ae hq
    go_wp2_with fail
    exact ⟨⟨i+1,by omega,by first|trivial|rfl,by rw [HC.o,HQ.o,if_neg (by decide)];rfl,by go_num⟩,by simp only [intOf];omega⟩
  ·obtain rfl:i=l.length:=by omega
   go_wp2_with fail
   go_ret;exact ⟨rfl,rfl⟩
section
variable{P:Program} (w:World)
theorem oG {o:Oper} {a:Act} {Q:Exit→Act→World→Prop} {K:Act→World→Prop} (s x:Operand) (t:TypeId)
 (ho:o.op= .call {callee:= .builtin .append,args:= #[s,x],argTypes:= #[t,t]})
 (base:Nat) (e:TypeId) (z:Value) (size bytes:Nat) (ht:P.underlying t=some (.slice e)) (jt:(P.info? e).map (fun i=>(i.zero,i.size,i.bytes))=some (some z,size,bytes)) (hzs:z.cells.size=size) (hsz:0<size)
 (v:Value) (n:Nat) (xs:List Value) (hs:a.eval s=v) (hown:w.ownsRow base e size v n xs)
 (xa:Option Addr) (m c:Nat) (news:List Value) (hx:a.eval x= .slice xa m c) (hl:news.length=m*size) (hnews:0<m→ ∃ad,xa=some ad∧ ∀j u,news[j]?=some u→w.cell? (ad.add j)=some u) (h1: ∀u∈news,u.oneCell'=true)
 (hnil:xa=none→m=0∧c=0)
 (h63:n+m≤1200000000000) (hbytes:bytes≤100) (hbase:base≤w.heap.size)
 (h: ∀v' w',Hid (w'.ownsRow base e size v' (n+m) (xs++news))→Hid (∀a0,Ext a0 w→a0.heap.size≤base→Ext a0 w')→Hid (∀k,k<w.heap.size→some k≠v.ownBlock→w'.heap[k]?=w.heap[k]?)→Hid (w.heap.size≤w'.heap.size)→Hid (v'.ownBlock=v.ownBlock∨ ∃g,v'.ownBlock=some g∧w.heap.size≤g)→K (a.put o.dst v') w') (hm:0<m):Oper.wp P o a w K Q:=by
 obtain ⟨i,hi,hz,hsize,hby⟩:=info_parts jt;have hlt:=hown.lt;have hb:(n+m)*bytes≤140737488355328:=Nat.le_trans (Nat.mul_le_mul h63 hbytes) (by decide);have td:n+m≤maxLen:=by unfold maxLen;omega
 cases xa with
 |none=>
  obtain ⟨rfl,rfl⟩:=hnil rfl;omega
 |some ad=>
  have lR: ∀j u,news[j]?=some u→w.cell? (ad.add j)=some u:=by
   intro j u hu;by_cases hm:0<m
   ·obtain ⟨Vs,e',hh⟩:=hnews hm;cases e';exact hh j u hu
   ·have:news= []:=List.eq_nil_of_length_eq_zero (by rw [hl];have:m=0:=by omega
                                                     simp [this])
    rw [this]at hu;simp at hu
  obtain ⟨v',w',hr,h2,h3,h4,h5⟩:=gX (P:=P) w base t o.type e i z size bytes ht hi hz hsize hby hzs hsz v n xs hown ad m c news hl lR h1 td hb hbase;unfold Oper.wp execOp;simp only [ho,resolve,invoke,builtin,Sem.run_bind,Sem.run_pure,Result.andThen_ok,List.map_toArray,List.map_cons,List.map_nil,hs,hx,hr];refine (h v' w' h2 (fun a0 ha hb0=>⟨ha.below.trans ⟨h3.os,h3.tape,h3.output,h3.size,fun k hk=>h3.block k (by have:=ha.size;omega) (fun e'=>by have:=hlt k e'.symm;omega)⟩,Nat.le_trans ha.drawn h4⟩) h3.block h3.size h5)
end
theorem Tryz.info_pair:(Tryz.prog.info? 166).map (fun i=>(i.zero,i.size,i.bytes))=some (some (.agg #[i64 0,i64 0]),2,16):=by kernel_rfl
def j9 (c:ai) (i:Nat):Int×Int:=((c.lines[i]?.map aP.cU).getD 0,(c.lines[i]?.map aP.j5).getD 0)
theorem nT {c:ai} {i:Nat} (h:i<c.lines.length):j9 c i=(c.lines[i].cU,c.lines[i].j5):=by unfold j9;rw [List.getElem?_eq_getElem h];rfl
def gG (c:ai) (l:List Nat):List (Int×Int):=l.map (j9 c)
def fw (l:List (Int×Int)):List (List Value):=l.map fun p=> [i64 p.1,i64 p.2]
theorem mL (l:List (Int×Int)):(fw l).length=l.length:=by simp [fw]
theorem wI (c:ai) (l:List Nat) (k:Nat) (h:k<l.length):fw (gG c (l.take (k+1)))=fw (gG c (l.take k))++ [[i64 (j9 c l[k]).1,i64 (j9 c l[k]).2]]:=by
 unfold fw gG;rw [List.take_succ_eq_append_getElem h,List.map_append,List.map_append];rfl
theorem Fy (w0 V:World) (c:ai) (h:Int) (hV:Ext w0 V) (hc:aS w0 c) (hn:c.lines.length≤1000000):
 Calls prog 62 #[.agg (C8 c),i64 h] V fun e w'=> ∃a cap b cb,e= .returned (.tuple #[.slice a (cC c h c.lines.length).length cap,.slice b (cC c h c.lines.length).length cb])∧bS w' 2 a cap (fw (gG c (cC c h c.lines.length)))∧aD w' b cb (bU (cC c h c.lines.length))∧Ext V w'∧Fr V.heap.size a∧Fr V.heap.size b:=by
 try unfold C8
 have hr:=hc.lines;have hle:=hr.le;have dy:=hr.cap
 rw [List.length_map]at hle;obtain ⟨l,hl⟩: ∃l,cC c h c.lines.length=l:=⟨_,rfl⟩;have tC:l.length≤1000000:=by rw [←hl];exact Nat.le_trans (h_ _ _ _) hn
 have hlt: ∀i∈l,i<c.lines.length:=by rw [←hl];exact jd c h _
 have tD:=ae (fun V' (x:Ext w0 V')=>wF w0 V' c h x hc hn);rw [hl]at tD⊢;have HR:=ae hr;have HV:=ae hV;have yN:=ae hlt;have nU:=ae tC
 clear hc hr hV hn hl hlt;go_enter func62,ntmps62
 go_upto_region 1 with fail
 obtain ⟨W0,hW,x0,Z0,A0⟩:=aH V 32 c.cells;rw [show V.alloc (.cells (C8 c) 32)=W0 from hW.symm];clear hW;have zR:=ae A0;have pG:=ae x0
 obtain ⟨B,hB⟩: ∃B,B=V.heap.size:=⟨_,rfl⟩;rw [←hB]at zR⊢;clear A0 x0 Z0;have wC:=ae hB;clear hB;obtain ⟨k0,k1,k2,k3,k4,k5,k6,k7⟩:=ai.at zR.o;go_wp2_with fail
 refine (tD.o W0 (HV.o.trans pG.o)).mono ?_;rintro e W ⟨a,cap,rfl,hI,x1,jU⟩;have HI:=ae hI;have HX:=ae (pG.o.trans x1);have HA:=ae (zR.o.ext x1);have iz:Hid (Fr V.heap.size a):=jU.mono pG.o.size
 have CZ:=hI.le;have Hy:=hI.cap
 rw [cq]at CZ;clear hI x1 jU k0 k1 k2 k3 k4 k5 k6 k7 pG zR tD;go_wp2_with fail
 go_loopw [7,15] (fun v ii wr=> ∃k:Nat,k≤l.length∧aN wr W.heap.size 166 2 v (fw (gG c (l.take k)))∧Ext W wr∧ii= .int .i64 k) (fun _ ii _=>l.length-(intOf ii).toNat)
 case atStart=>exact ⟨0,Nat.zero_le _,aN.nil _ _ _ _,Ext.refl _,rfl⟩
 case round=>
  obtain ⟨k,hk,hown,hE,rfl⟩:=hrel;have HO:=ae hown;clear hown;by_cases hlt:k<l.length
  ·obtain ⟨ab,ao,hab,i0⟩:=(HI.o.ext hE).cell k (by rw [cq];exact hlt)
   have yy:=yN.o l[k] (List.getElem_mem hlt);have e0:(bU l)[k]'(by rw [cq];exact hlt)=((l[k]:Nat):Int):=by simp [bU]
   rw [e0]at i0;have HST:=ae (wI c l k hlt);rw [nT yy]at HST;obtain ⟨b,o,ha,-,g1,g2,-⟩:=((HR.o.ext HV.o).ext HX.o).lines l[k] yy;obtain ⟨-,-,-,k3,-⟩:=ai.at HA.o;rw [ha]at k3;have qL:Hid ((fw (gG c (l.take k))).length=k):=by show _=_;rw [mL];simp [gG];omega
   have qL:Hid ((fw (gG c (l.take k))).length≤1000000):=by show _≤_;rw [qL.o];omega
   generalize c.lines[l[k]]=x at*;generalize fw (gG c (l.take k))=rows at*;generalize l[k]=j at*;have f_:(0:Int)≤(k:Int):=by omega
   have fU:(k:Int)<(l.length:Int):=by omega
   have Qr:(0:Int)≤(j:Int):=by omega
   have Nh:(j:Int)<(c.lines.length:Int):=by omega
   have HE:=ae hE;have vX:=hE.size
   have HOW:Hid (wr.ownsRow W.heap.size 166 2 u7 rows.length rows.flatten):=HO.o.own;have zT:=ae hab;clear ha hE hab e0;rw [zT.o];go_wp2_with fail
   refine aB (fun w'=>w'.cell? ⟨B,3,none⟩=some (.slice (some ⟨b,o,none⟩) c.lines.length c.lc)∧w'.cell? ⟨b,o+j*12+1,none⟩=some (i64 x.cU)∧w'.cell? ⟨b,o+j*12+2,none⟩=some (i64 x.j5)) (fun w'=>True) (fun i=>false) (by kernel_rfl) (⟨aj HE.o.drew k3,aj HE.o.drew g1,aj HE.o.drew g2⟩) (trivial) (fun aq ah=> ?_);refine ay 0 aq ah ?_ (v:=u7);refine ay 1 aq ah ?_;refine ay 2 aq ah ?_;refine ay 3 aq ah ?_ (v:= .int .i64 (j:Int));refine ay 4 aq ah ?_;refine ay 5 aq ah ?_;refine ay 6 aq ah ?_ (v:=i64 x.cU);refine ay 7 aq ah ?_;refine ay 8 aq ah ?_;refine ay 9 aq ah ?_ (v:= .int .i64 (j:Int));refine ay 10 aq ah ?_;refine ay 11 aq ah ?_;refine ay 12 aq ah ?_ (v:=i64 x.j5);refine ay 13 aq ah ?_ (v:= .agg #[i64 x.cU,i64 x.j5]);refine dX 14 rfl (fun Kc hK=> ?_);go_simp;refine hK.o _ _ (⟨aj (HE.o.drew.alloc _) k3,aj (HE.o.drew.alloc _) g1,aj (HE.o.drew.alloc _) g2⟩) (trivial) (fun aq ah=> ?_);clear hK Kc;try simp only [sS]
   refine dX 15 rfl (fun Kc hK=> ?_);rw [if_pos (by rfl)];refine oG _ (.tmp 19) (.tmp 33) 108 rfl W.heap.size 166 (.agg #[i64 0,i64 0]) 2 16 underlying108 Tryz.info_pair rfl (by decide) u7 rows.length rows.flatten rfl ?c1 (some ⟨wr.heap.size,0,none⟩) 1 1 [i64 x.cU,i64 x.j5] rfl rfl ?c2 ?c3 ?c4 ?c5 (by decide) ?c6 ?c7 (by decide)
   case c1=>exact bq HOW.o ((Ext.refl wr).drew.alloc _)
   case c2=>exact fun _=>⟨_,rfl,cu wr.drew 166 [i64 x.cU,i64 x.j5]⟩
   case c3=>intro u hu;simp only [List.mem_cons,List.not_mem_nil,or_false]at hu;rcases hu with rfl|rfl<;>rfl
   case c4=>intro e;cases e
   case c5=>have:=qL.o;omega
   case c6=>exact Nat.le_trans vX ((Ext.refl wr).drew.alloc _).size
   intro v1 w5 ho he hb hz hv;have x5:Ext W w5:=he.o W (HE.o.drew.alloc _) (Nat.le_refl _);refine hK.o _ _ (⟨aj x5 k3,aj x5 g1,aj x5 g2⟩) (trivial) (fun aq ah=> ?_);clear hK Kc;try simp only [sS]
   refine ay 16 aq ah ?_ (v:=v1);refine ax (by kernel_rfl) ?_ _;clear aq ah;have i5:=HO.o.snoc (w':=w5) (v':=v1) (r:= [i64 x.cU,i64 x.j5]) rfl ho.o;rw [←HST.o]at i5;go_wp2_with fail
   exact ⟨⟨k+1,by omega,i5,x5,by go_num⟩,by simp only [intOf];omega⟩
  ·obtain rfl:k=l.length:=by omega
   rw [List.take_length]at HO;obtain ⟨pa,pc,rfl,hS,jU⟩:=HO.o.recs (by decide);have e1:(fw (gG c l)).length=l.length:=by rw [mL];simp [gG]
   rw [e1];have HS:=ae hS;have tQ:=ae jU
   clear hS jU HO e1;go_wp2_with fail
   exact bodyPost_ret (v:= .tuple #[.slice pa l.length pc,.slice a l.length cap]) (by simp [results,results62,go_sem]) rfl ⟨pa,pc,a,cap,rfl,HS.o,HI.o.ext hE,HX.o.trans hE,tQ.o.mono HX.o.size,iz.o⟩
inductive iH (E:List (Nat×Nat)):Nat→Nat→Prop
 |refl (a:Nat):iH E a a
 |C0 {a b:Nat}:(a,b)∈E→iH E a b
 |symm {a b:Nat}:iH E a b→iH E b a
 |trans {a b c:Nat}:iH E a b→iH E b c→iH E a c
theorem iH.mono {E F:List (Nat×Nat)} (h: ∀p∈E,p∈F) {a b:Nat} (c:iH E a b):iH F a b:=by
 induction c with
 |refl a=>exact .refl a
 |C0 h'=>exact .C0 (h _ h')
 |symm _ ih=>exact ih.symm
 |trans _ _ QH QI=>exact QH.trans QI
theorem iH.label {E:List (Nat×Nat)} {α:Type} (f:Nat→α) (h: ∀p∈E,f p.1=f p.2) {a b:Nat} (c:iH E a b):f a=f b:=by
 induction c with
 |refl a=>rfl
 |C0 h'=>exact h _ h'
 |symm _ ih=>exact ih.symm
 |trans _ _ QH QI=>exact QH.trans QI
def jG (f:Nat→Nat) (b:Nat):Bool:=(List.range b).all fun k=>f k !=f b
theorem fE (f:Nat→Nat) (b:Nat):jG f b=true↔ ∀k,k<b→f k≠f b:=by
 unfold jG;rw [List.all_eq_true];constructor
 ·intro h k hk;simpa using h k (List.mem_range.2 hk)
 ·intro h k hk;simpa using h k (List.mem_range.1 hk)
def cls (f:Nat→Nat) (n:Nat):Nat:=(List.range n).countP (jG f)
theorem Hz (f:Nat→Nat):cls f 0=0:=rfl
theorem pP (f:Nat→Nat) (n:Nat):cls f (n+1)=cls f n+if jG f n then 1 else 0:=by
 unfold cls;rw [List.range_succ,List.countP_append,List.countP_singleton]
theorem Nv (f:Nat→Nat) (n:Nat):cls f n≤n:=by
 induction n with
 |zero=>exact Nat.le_refl _
 |succ n ih=>rw [pP];split<;>omega
def merge (f:Nat→Nat) (x y:Nat) (b:Nat):Nat:=if f b=y then x else f b
theorem Fz (f:Nat→Nat) (x y:Nat) (nN:x≠y) (n:Nat):
 cls (merge f x y) n+(if(∃a,a<n∧f a=x)∧(∃a,a<n∧f a=y)then 1 else 0)=cls f n:=by
 induction n with
 |zero=>simp [Hz]
 |succ n ih=>
  rw [pP,pP]
  have hex: ∀z,(∃a,a<n+1∧f a=z)↔((∃a,a<n∧f a=z)∨f n=z):=by
   intro z;constructor
   ·rintro ⟨a,ha,e⟩
    by_cases h:a=n
    ·exact Or.inr (h▸e)
    ·exact Or.inl ⟨a,by omega,e⟩
   ·rintro (⟨a,ha,e⟩|e)
    ·exact ⟨a,by omega,e⟩
    ·exact ⟨n,by omega,e⟩
  by_cases hx:f n=x
  ·have hy':f n≠y:=fun e=>nN (hx▸e)
   have hm:merge f x y n=x:=by unfold merge;rw [if_neg hy',hx]
   have h1:jG (merge f x y) n=true↔(¬(∃a,a<n∧f a=x))∧ ¬(∃a,a<n∧f a=y):=by
    rw [fE,hm];constructor
    ·intro h
     refine ⟨fun⟨a,ha,e⟩=>h a ha ?_,fun⟨a,ha,e⟩=>h a ha ?_⟩
     ·unfold merge;split<;>first|rfl|exact e
     ·unfold merge;rw [if_pos e]
    ·rintro ⟨h1,h2⟩ k hk e
     unfold merge at e;split at e
     ·rename_i h;exact h2 ⟨k,hk,h⟩
     ·exact h1 ⟨k,hk,e⟩
   have h2:jG f n=true↔ ¬(∃a,a<n∧f a=x):=by
    rw [fE,hx];exact ⟨fun h ⟨a,ha,e⟩=>h a ha e,fun h k hk e=>h ⟨k,hk,e⟩⟩
   simp only [hex];by_cases p1: ∃a,a<n∧f a=x<;>by_cases p2: ∃a,a<n∧f a=y<;>simp_all<;>omega
  ·by_cases hy:f n=y
   ·have hm:merge f x y n=x:=by unfold merge;rw [if_pos hy]
    have h1:jG (merge f x y) n=true↔(¬(∃a,a<n∧f a=x))∧ ¬(∃a,a<n∧f a=y):=by
     rw [fE,hm];constructor
     ·intro h
      refine ⟨fun⟨a,ha,e⟩=>h a ha ?_,fun⟨a,ha,e⟩=>h a ha ?_⟩
      ·unfold merge;split<;>first|rfl|exact e
      ·unfold merge;rw [if_pos e]
     ·rintro ⟨h1,h2⟩ k hk e
      unfold merge at e;split at e
      ·rename_i h;exact h2 ⟨k,hk,h⟩
      ·exact h1 ⟨k,hk,e⟩
    have h2:jG f n=true↔ ¬(∃a,a<n∧f a=y):=by
     rw [fE,hy];exact ⟨fun h ⟨a,ha,e⟩=>h a ha e,fun h k hk e=>h ⟨k,hk,e⟩⟩
    simp only [hex];by_cases p1: ∃a,a<n∧f a=x<;>by_cases p2: ∃a,a<n∧f a=y<;>simp_all<;>omega
   ·have hm:merge f x y n=f n:=by unfold merge;rw [if_neg hy]
    have h1:jG (merge f x y) n=true↔jG f n=true:=by
     rw [fE,fE,hm];constructor
     ·intro h k hk e
      refine h k hk ?_;unfold merge;rw [if_neg (by rw [e];exact hy)];exact e
     ·intro h k hk e
      unfold merge at e;split at e
      ·exact hx e.symm
      ·exact h k hk e
    simp only [hex];by_cases p1: ∃a,a<n∧f a=x<;>by_cases p2: ∃a,a<n∧f a=y<;>by_cases p3:jG f n=true<;>simp_all<;>omega
def j_ (n:Nat) (E:List (Nat×Nat)) (f:Nat→Nat):Prop:= ∀a b,a<n→b<n→(f a=f b↔iH E a b)
theorem j_.nil (n:Nat):j_ n [] (fun b=>b):=by
 intro a b _ _;constructor
 ·rintro rfl;exact .refl _
 ·intro h;exact h.label (fun b=>b) (fun p hp=>absurd hp (by simp))
theorem iH.Ay {E:List (Nat×Nat)} {x y a b:Nat}:iH (E++ [(x,y)]) a b↔iH E a b∨(iH E a x∧iH E y b)∨(iH E a y∧iH E x b):=by
 constructor
 ·intro h
  induction h with
  |refl a=>exact Or.inl (.refl _)
  | @C0 a b h=>
    rcases List.mem_append.1 h with h|h
    ·exact Or.inl (.C0 h)
    ·simp only [List.mem_singleton,Prod.mk.injEq]at h
     obtain ⟨rfl,rfl⟩:=h;exact Or.inr (Or.inl ⟨.refl _,.refl _⟩)
  |symm _ ih=>
   rcases ih with h|⟨h1,h2⟩|⟨h1,h2⟩
   ·exact Or.inl h.symm
   ·exact Or.inr (Or.inr ⟨h2.symm,h1.symm⟩)
   ·exact Or.inr (Or.inl ⟨h2.symm,h1.symm⟩)
  |trans _ _ QH QI=>
   rcases QH with h|⟨h1,h2⟩|⟨h1,h2⟩<;>rcases QI with g|⟨g1,g2⟩|⟨g1,g2⟩
   ·exact Or.inl (h.trans g)
   ·exact Or.inr (Or.inl ⟨h.trans g1,g2⟩)
   ·exact Or.inr (Or.inr ⟨h.trans g1,g2⟩)
   ·exact Or.inr (Or.inl ⟨h1,h2.trans g⟩)
   ·exact Or.inr (Or.inl ⟨h1,g2⟩)
   ·exact Or.inl (h1.trans g2)
   ·exact Or.inr (Or.inr ⟨h1,h2.trans g⟩)
   ·exact Or.inl (h1.trans g2)
   ·exact Or.inr (Or.inr ⟨h1,g2⟩)
 ·have hm: ∀{a b},iH E a b→iH (E++ [(x,y)]) a b:=fun h=>h.mono (fun p hp=>List.mem_append_left _ hp)
  have he:iH (E++ [(x,y)]) x y:= .C0 (by simp);rintro (h|⟨h1,h2⟩|⟨h1,h2⟩)
  ·exact hm h
  ·exact (hm h1).trans (he.trans (hm h2))
  ·exact (hm h1).trans (he.symm.trans (hm h2))
theorem j_.skip {n:Nat} {E:List (Nat×Nat)} {f:Nat→Nat} (h:j_ n E f) {x y:Nat} (hx:x<n) (hy:y<n) (e:f x=f y):j_ n (E++ [(x,y)]) f:=by
 intro a b ha hb;have hc:=(h x y hx hy).1 e;rw [iH.Ay,h a b ha hb];constructor
 ·exact Or.inl
 ·rintro (g|⟨g1,g2⟩|⟨g1,g2⟩)
  ·exact g
  ·exact g1.trans (hc.trans g2)
  ·exact g1.trans (hc.symm.trans g2)
theorem j_.join {n:Nat} {E:List (Nat×Nat)} {f:Nat→Nat} (h:j_ n E f) {x y:Nat} (hx:x<n) (hy:y<n) (_e:f x≠f y):j_ n (E++ [(x,y)]) (merge f (f x) (f y)):=by
 intro a b ha hb;rw [iH.Ay,←h a b ha hb,←h a x ha hx,←h y b hy hb,←h a y ha hy,←h x b hx hb];unfold merge;by_cases h1:f a=f y<;>by_cases h2:f b=f y<;>simp [h1,h2]<;>omega
theorem j_.C1 {n:Nat} {f:Nat→Nat} {x y:Nat} (hx:x<n) (hy:y<n) (e:f x≠f y):cls (merge f (f x) (f y)) n+1=cls f n:=by
 have:=Fz f (f x) (f y) e n;rw [if_pos ⟨⟨x,hx,rfl⟩,⟨y,hy,rfl⟩⟩]at this;exact this
structure jw (n:Nat) (E:List (Nat×Nat)) (f:Nat→Nat):Prop where
 le: ∀b,b<n→f b≤b
 conn: ∀b,b<n→iH E b (f b)
theorem jw.tells {n:Nat} {E:List (Nat×Nat)} {f:Nat→Nat} (h:jw n E f) (he: ∀p∈E,f p.1=f p.2):j_ n E f:=by
 intro a b ha hb;constructor
 ·intro e
  have:=h.conn b hb;rw [←e]at this;exact (h.conn a ha).trans this.symm
 ·intro c;exact c.label f he
theorem jw.first {n:Nat} {E:List (Nat×Nat)} {f:Nat→Nat} (h:jw n E f) (he: ∀p∈E,f p.1=f p.2) (b:Nat) (hb:b<n):(f b==b)=jG f b:=by
 rw [Bool.eq_iff_iff,fE];simp only [beq_iff_eq];constructor
 ·intro e k hk hf
  have:=h.le k (by omega);omega
 ·intro hf
  have h1:=h.le b hb;by_cases e:f b=b
  ·exact e
  ·have h3:f (f b)=f b:=(h.tells he (f b) b (by omega) hb).2 (h.conn b hb).symm
   exact absurd h3 (hf (f b) (by omega))
def jk (w:World) (B:Nat) (f:Nat→Nat) (n:Nat):Prop:=aJ w B 3 ((List.range n).map fun b=>i64 ((f b:Nat):Int))
def fQ (f:Nat→Nat) (k v:Nat) (b:Nat):Nat:=if b=k then v else f b
theorem jk.cell {w:World} {B:Nat} {f:Nat→Nat} {n:Nat} (h:jk w B f n) (k:Nat) (hk:k<n):w.cell? ⟨B,k,none⟩=some (i64 ((f k:Nat):Int))∧w.frozen? ⟨B,k,none⟩=false:=
 ⟨by rw [aJ.cell h k];simp [hk],aJ.frozen h k⟩
theorem jk.ext {w w':World} {B:Nat} {f:Nat→Nat} {n:Nat} (h:jk w B f n) (e:Ext w w'):jk w' B f n:=aJ.ext h e
theorem jk.lt {w:World} {B:Nat} {f:Nat→Nat} {n:Nat} (h:jk w B f n):B<w.heap.size:=aJ.lt h
theorem jk.congr {w:World} {B:Nat} {f g:Nat→Nat} {n:Nat} (h:jk w B f n) (e: ∀b,b<n→f b=g b):jk w B g n:=by
 unfold jk at*
 have:((List.range n).map fun b=>i64 ((g b:Nat):Int))=(List.range n).map fun b=>i64 ((f b:Nat):Int):=by
  apply List.map_congr_left;intro b hb;rw [e b (List.mem_range.1 hb)]
 rw [this];exact h
theorem jk.set {w:World} {B:Nat} {f:Nat→Nat} {n:Nat} (h:jk w B f n) (k v:Nat):jk (w.setCell ⟨B,k,none⟩ (i64 (v:Int))) B (fQ f k v) n:=by
 unfold jk at*;have h5:=aJ.set h k (i64 (v:Int))
 have:((List.range n).map fun b=>i64 ((f b:Nat):Int)).set k (i64 (v:Int))=(List.range n).map fun b=>i64 ((fQ f k v b:Nat):Int):=by
  apply List.ext_getElem
  ·simp
  ·intro i h1 h2
   rw [List.getElem_set];simp only [List.getElem_map,List.getElem_range];unfold fQ;by_cases hik:k=i
   ·subst hik;simp
   ·rw [if_neg hik,if_neg (fun e=>hik e.symm)]
 rw [this]at h5;exact h5
theorem jk.zero {w:World} {B:Nat} {n:Nat} (h:aJ w B 3 (List.replicate n (.int .i64 0))):jk w B (fun b=>if b<0 then b else 0) n:=by
 unfold jk
 have:((List.range n).map fun b=>i64 (((if b<0 then b else 0:Nat):Nat):Int))=List.replicate n (.int .i64 0):=by
  apply List.ext_getElem
  ·simp
  ·intro i h1 h2;simp
 rw [this];exact h
theorem jk.next {w:World} {B n k:Nat} (h:jk w B (fun b=>if b<k then b else 0) n):jk (w.setCell ⟨B,k,none⟩ (i64 (k:Int))) B (fun b=>if b<k+1 then b else 0) n:=
 (h.set k k).congr fun b _=>by
   unfold fQ;by_cases e:b=k
   ·subst e;simp
   ·rw [if_neg e]
    show(if b<k then b else 0)=(if b<k+1 then b else 0);by_cases e2:b<k
    ·rw [if_pos e2,if_pos (by omega)]
    ·rw [if_neg e2,if_neg (by omega)]
theorem jk.full {w:World} {B n:Nat} (h:jk w B (fun b=>if b<n then b else 0) n):jk w B (fun b=>b) n:=h.congr fun b hb=>by simp [hb]
def sumTo (f:Nat→Nat):Nat→Nat
 |0=>0
 |n+1=>sumTo f n+f n
theorem pQ (f:Nat→Nat) (k v:Nat): ∀n,n≤k→sumTo (fQ f k v) n=sumTo f n
 |0,_=>rfl
 |n+1,h=>by
  have:fQ f k v n=f n:=by unfold fQ;rw [if_neg (by omega)]
  simp only [sumTo,pQ f k v n (by omega),this]
theorem sumTo_upd (f:Nat→Nat) (k v:Nat): ∀n,k<n→sumTo (fQ f k v) n+f k=sumTo f n+v
 |0,h=>absurd h (Nat.not_lt_zero _)
 |n+1,h=>by
  by_cases e:k=n
  ·subst e
   have:fQ f k v k=v:=by unfold fQ;rw [if_pos rfl]
   simp only [sumTo,pQ f k v k (Nat.le_refl _),this];omega
  ·have ih:=sumTo_upd f k v n (by omega)
   have:fQ f k v n=f n:=by unfold fQ;rw [if_neg (fun h=>e h.symm)]
   simp only [sumTo,this];omega
def dZ (f:Nat→Nat) (p:Nat×Nat):Nat→Nat:=fQ (fQ f p.1 (min (f p.1) (f p.2))) p.2 (min (f p.1) (f p.2))
theorem Az {n:Nat} {E:List (Nat×Nat)} {f:Nat→Nat} (h:jw n E f) {p:Nat×Nat} (hp:p∈E) (h1:p.1<n) (h2:p.2<n):jw n E (dZ f p):=by
 have l1:=h.le p.1 h1;have l2:=h.le p.2 h2;have e:iH E p.1 p.2:= .C0 hp
 have cm:iH E p.1 (min (f p.1) (f p.2)):=by
  by_cases q:f p.1≤f p.2
  ·rw [Nat.min_eq_left q];exact h.conn p.1 h1
  ·rw [Nat.min_eq_right (by omega)];exact e.trans (h.conn p.2 h2)
 constructor
 ·intro b hb
  have:=h.le b hb;unfold dZ fQ;by_cases q2:b=p.2
  ·rw [if_pos q2];omega
  ·rw [if_neg q2]
   by_cases q1:b=p.1
   ·rw [if_pos q1];omega
   ·rw [if_neg q1];exact this
 ·intro b hb
  unfold dZ fQ;by_cases q2:b=p.2
  ·rw [if_pos q2,q2];exact e.symm.trans cm
  ·rw [if_neg q2]
   by_cases q1:b=p.1
   ·rw [if_pos q1,q1];exact cm
   ·rw [if_neg q1];exact h.conn b hb
theorem FA {n:Nat} {f:Nat→Nat} {p:Nat×Nat} (h1:p.1<n) (h2:p.2<n):sumTo (dZ f p) n≤sumTo f n∧(f p.1≠f p.2→sumTo (dZ f p) n<sumTo f n):=by
 unfold dZ;obtain ⟨m,hm⟩: ∃m,m=min (f p.1) (f p.2):=⟨_,rfl⟩;rw [←hm];have a:=sumTo_upd f p.1 m n h1;have b:=sumTo_upd (fQ f p.1 m) p.2 m n h2;have c:fQ f p.1 m p.2=if p.2=p.1 then m else f p.2:=rfl
 rw [c]at b;by_cases q:p.2=p.1
 ·have e:f p.2=f p.1:=by rw [q]
  rw [if_pos q]at b;omega
 ·rw [if_neg q]at b
  omega
theorem uH {f:Nat→Nat} {p:Nat×Nat} (h:f p.1=f p.2) (b:Nat):dZ f p b=f b:=by
 unfold dZ fQ;rw [h,Nat.min_self];by_cases q2:b=p.2
 ·rw [if_pos q2,q2]
 ·rw [if_neg q2]
  by_cases q1:b=p.1
  ·rw [if_pos q1,q1,h]
  ·rw [if_neg q1]
theorem jw.congr {n:Nat} {E:List (Nat×Nat)} {f g:Nat→Nat} (h:jw n E f) (e: ∀b,b<n→f b=g b):jw n E g:=
 ⟨fun b hb=>by rw [←e b hb];exact h.le b hb,fun b hb=>by rw [←e b hb];exact h.conn b hb⟩
theorem jw.start (n:Nat) (E:List (Nat×Nat)):jw n E (fun b=>b):=⟨fun _ _=>Nat.le_refl _,fun _ _=> .refl _⟩
structure sw (n:Nat) (E:List (Nat×Nat)) (f:Nat→Nat) (i:Nat) (g:Nat→Nat) (ag:Bool):Prop where
 least:jw n E g
 sum:sumTo g n≤sumTo f n
 yes:ag=true→sumTo g n<sumTo f n
 no:ag=false→ ∀p∈E.take i,g p.1=g p.2
theorem sw.start {n:Nat} {E:List (Nat×Nat)} {f:Nat→Nat} (h:jw n E f):sw n E f 0 f false:=⟨h,Nat.le_refl _,(fun e=>by cases e),(fun _ p hp=>by simp at hp)⟩
theorem sw.step {n:Nat} {E:List (Nat×Nat)} {f g:Nat→Nat} {i:Nat} {ag:Bool} (h:sw n E f i g ag) (hi:i<E.length) (h1:E[i].1<n) (h2:E[i].2<n):
 sw n E f (i+1) (dZ g E[i]) (ag||(g E[i].1 !=min (g E[i].1) (g E[i].2))||(g E[i].2 !=min (g E[i].1) (g E[i].2))):=by
 have hs:=FA (f:=g) h1 h2;refine ⟨Az h.least (List.getElem_mem hi) h1 h2,Nat.le_trans hs.1 h.sum,fun e=> ?_,fun e=> ?_⟩
 ·by_cases q:g E[i].1=g E[i].2
  ·rw [q]at e
   simp at e;exact Nat.lt_of_le_of_lt hs.1 (h.yes e)
  ·exact Nat.lt_of_lt_of_le (hs.2 q) h.sum
 ·simp at e
  obtain ⟨⟨e1,e2⟩,e3⟩:=e;have q:g E[i].1=g E[i].2:=by omega
  intro p hp;rw [uH q,uH q];rw [List.take_succ_eq_append_getElem hi,List.mem_append]at hp;rcases hp with hp|hp
  ·exact h.no e1 p hp
  ·rw [List.mem_singleton]at hp;rw [hp];exact q
end Go.Proofs.YtkpngkdgphojlaaGreat
