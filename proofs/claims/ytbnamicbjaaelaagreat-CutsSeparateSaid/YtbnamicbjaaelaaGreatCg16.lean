/- Texts of the proof. -/
import Derived.Test.YtbnamicbjaaelaaGreatCg13
set_option linter.all false
set_option maxHeartbeats 4000000
set_option maxRecDepth 100000
namespace Go.Proofs.YtbnamicbjaaelaaGreat
open Go.Proofs.Tryz
open Go.RowKit
section
variable{P:Program} (w:World)
theorem su {ops:Array Oper} {rest:List Oper} {o:Oper} {a:Act} {Q:Exit->Act->World->Prop} (hgd:o.guard=none) (s x:Operand) (t:TypeId)
 (ho:o.op= .call {callee:= .builtin .append,args:= #[s,x],argTypes:= #[t,t]})
 (base:Nat) (e:TypeId) (z:Value) (size bytes:Nat) (ht:P.underlying t=some (.slice e)) (iR:(P.info? e).map (λi=>(i.zero,i.size,i.bytes))=some (some z,size,bytes)) (hzs:z.cells.size=size) (hsz:0<size)
 (v:Value) (n:Nat) (xs:List Value) (hs:a.eval s=v) (hown:w.ownsRow base e size v n xs)
 (xa:Option Addr) (m c:Nat) (news:List Value) (hx:a.eval x= .slice xa m c) (hl:news.length=m*size) (hnews:0<m-> ∃ad,xa=some ad/\ ∀j u,news[j]?=some u->w.cell? (ad.add j)=some u) (h1: ∀u∈news,u.oneCell'=true)
 (hnil:xa=none->m=0/\c=0)
 (vg:n+m<=9223372036854775807) (hb:(n+m)*bytes<=140737488355328) (hbase:base<=w.heap.size)
 (h: ∀v' w',Hid (w'.ownsRow base e size v' (n+m) (xs++news))->Hid (∀a0,Ext a0 w->a0.heap.size<=base->Ext a0 w')->Hid (∀k,k<w.heap.size->some k≠v.ownBlock->w'.heap[k]?=w.heap[k]?)->Hid (w.heap.size<=w'.heap.size)->Hid (v'.ownBlock=v.ownBlock\/ ∃g,v'.ownBlock=some g/\w.heap.size<=g)->wpList P ops Q rest (a.put o.dst v') w'):wpList P ops Q (o::rest) a w:=by
 obtain ⟨i,hi,hz,hsize,hby⟩:=info_parts iR;have hlt:=hown.lt;have vg:n+m<=maxLen:=by unfold maxLen;omega
 cases xa with
 |none=>
  obtain ⟨rfl,rfl⟩:=hnil rfl;have hn:news= []:=List.eq_nil_of_length_eq_zero (by simpa using hl);subst hn;refine wpList_append_own_none hgd s x t ho base e i size ht hi v n xs hs hown hx ?_;exact h v w (ah (by simpa using hown)) (λ_ h _=>h) (λ_ _ _=>rfl) bY (.inl rfl)
 |some ad=>
  have nc: ∀j u,news[j]?=some u->w.cell? (ad.add j)=some u:=by
   intro j u hu;by_cases hm:0<m
   .obtain ⟨ZJ,e',hh⟩:=hnews hm;cases e';exact hh j u hu
   .have:news= []:=List.eq_nil_of_length_eq_zero (by rw [hl];have:m=0:=ae
                                                     simp [this])
    rw [this]at hu;simp at hu
  refine wpList_plain hgd λK hK=> ?_;obtain ⟨v',w',hr,h2,h3,h4,h5⟩:=iT (P:=P) w base t o.type e i z size bytes ht hi hz hsize hby hzs hsz v n xs hown ad m c news hl nc h1 vg hb hbase;unfold Oper.wp execOp;simp only [ho,resolve,invoke,builtin,Sem.run_bind,Sem.run_pure,Result.andThen_ok,List.map_toArray,List.map_cons,List.map_nil,hs,hx,hr];refine hK _ _ (h v' w' h2 (λa0 ha hb0=>⟨ha.below.trans ⟨h3.os,h3.tape,h3.output,h3.size,λk hk=>h3.block k (bA ha.size) (λe'=>bA (hlt k e'.symm))⟩,Nat.le_trans ha.drawn h4⟩) h3.block h3.size h5)
end
theorem aS.nC {w:World} {a:Option Addr} {c:Nat} {l:List Int} (h:ct w 1 a c (l.map λx=> [i64 x])) (hl:gO l):aS w a c l:=
 ⟨by have:=h.le;rw [List.length_map]at this;exact this,h.cap,λi hi=>by
   obtain ⟨b,o,ha,hc⟩:=h.cell i (by simpa using hi);refine ⟨b,o,ha,?_⟩;have:=hc 0 aG;simpa using this,λi hi=>by
   have:=hl l[i] (List.getElem_mem hi);unfold b_ at this;omega⟩
theorem aS.two (W:World) (x y:Int) (hx:b_ x) (hy:b_ y):aS (W.alloc (.cells #[i64 x,i64 y] 3)) (some ⟨W.heap.size,0,none⟩) 2 [x,y]:=
 ⟨aG,ae,λi hi=>⟨W.heap.size,0,rfl,by
   have h0:i=0\/i=1:=by simp at hi;omega
   rcases h0 with h0|h0<;>subst h0
   .exact (aT.alloc W 3 [i64 x,i64 y]).cell 0
   .exact (aT.alloc W 3 [i64 x,i64 y]).cell 1⟩,λi hi=>by
   have h0:i=0\/i=1:=by simp at hi;omega
   unfold b_ at hx hy;rcases h0 with h0|h0<;>subst h0<;>simp<;>omega⟩
theorem aaU (W:World) (x y lo hi:Int) (hx:b_ x) (hy:b_ y):
 Calls prog 58 #[i64 lo,i64 hi,.slice (some ⟨W.heap.size,0,none⟩) 2 2] (W.alloc (.cells #[i64 x,i64 y] 3)) λe w'=>e= .returned (.bool (bN lo hi [x,y]))/\w'=W.alloc (.cells #[i64 x,i64 y] 3):=
 fJ _ lo hi _ 2 [x,y] (aS.two W x y hx hy)
theorem zX {n:Nat} (h:n<=9223372036854775807):b_ (n:Int):=by unfold b_;omega
def yQ (m:cj):Bool:=bN 0 1048576 [m.up,m.down]
theorem FQ (l:List cj) (i:Nat) (h:i<l.length):(l.take (i+1)).all yQ=((l.take i).all yQ&&yQ l[i]):=by
 rw [List.take_succ_eq_append_getElem h,List.all_append];simp
theorem aS.eH {w w':World} {a:Option Addr} {c K:Nat} {l:List Int} (h:aS w a c l) (x:aB K w w') (hb: ∀p,a=some p->p.block≠K):aS w' a c l:=
 ⟨h.le,h.cap,λi hi=>by
   obtain ⟨b,o,ha,hc⟩:=h.cell i hi;exact ⟨b,o,ha,bU hc x (show b≠K from hb _ ha)⟩,h.T4⟩
def pI (c:ay) (x:cJ) (prev:List ByteArray) (e:Int):Int:=nd (nd (nd (nd (nd (nd (nd (nd (gJ e x.name prev) (bN 1 2 [(x.lines.length:Int)]) 4) (bN 0 ((c.lines.length:Int)-1) x.lines) 12) (iY x.lines) 11) (x.cd||decide (x.moves.length=0)) 16) (decide ((x.moves.length:Int)<=16)) 8) (bN 0 ((c.aA.length:Int)-1) (x.moves.map cj.unit)) 12) (iY (x.moves.map cj.unit)) 11) (x.moves.all yQ) 3
theorem FR (w0 V:World) (K:Nat) (c:ay) (e:Int) (i:Nat) (hi:i<c.outs.length) (hK:w0.heap.size<=K) (hV:Ext w0 V) (hc:bm w0 c) (hn:c.outs.length<=1000000) (U_: ∀o∈c.outs,o.moves.length<=5900000000000) (h:FE V K e):
 Calls prog 63 #[.pointer (some ⟨K,0,none⟩),.agg (C8 c),i64 i] V λe' w'=>tV V K (pI c c.outs[i] ((c.outs.take i).map cJ.name) e) e' w':=by
 try unfold C8
 have Nq:=h.lt;have hr:=hc.outs;have hle:=hr.le;have dS:=hr.cap
 rw [List.length_map]at hle;obtain ⟨b,o,ha,c0,c1,c2,c3⟩:=(hr.ext hV).outs i hi;have jM:=hc.o c.outs[i] (List.getElem_mem hi);have aaV:=ah (rV c);obtain ⟨prev,FB⟩: ∃prev,prev=(c.outs.take i).map cJ.name:=⟨_,rfl⟩;obtain ⟨x,kJ⟩: ∃x,x=c.outs[i]:=⟨_,rfl⟩;have mr:Hid (∃h:i<(c.outs.map cJ.name).length,(c.outs.map cJ.name)[i]=x.name/\(c.outs.map cJ.name).take i=prev):=⟨by simpa using hi,by subst kJ;simp,by subst FB;rw [List.map_take]⟩;have xv:Hid ((c.outs.map cJ.name).length<=1000000):=by(show _<=_;rw [List.length_map];exact hn)
 rw [<-FB,<-kJ];rw [<-kJ]at c0 c1 c2 c3 jM;clear FB hn;have oB:=ah jM.2.1;have YP:=ah jM.2.2.1;have HMI:=ah jM.2.2.2
 have LK:x.lines.length<=9223372036854775807:=Nat.le_trans jM.2.1.le jM.2.1.cap;have YQ:=ah (zX LK);have U':=ah LK;have uM:c.lines.length<=9223372036854775807:=by have:=hc.lines.le;have:=hc.lines.cap;rw [List.length_map]at*;omega
 have ue:c.aA.length<=9223372036854775807:=by have:=hc.aA.le;have:=hc.aA.cap;rw [List.length_map]at*;omega
 have HWL:Hid (IntKind.i64.wrap ((c.lines.length:Int)-1)=(c.lines.length:Int)-1):=by show _=_;rw [IntKind.wrap_i64];omega
 have HWU:Hid (IntKind.i64.wrap ((c.aA.length:Int)-1)=(c.aA.length:Int)-1):=by show _=_;rw [IntKind.wrap_i64];omega
 have HL1:=ah uM;have Tr:=ah ue
 have HMS:Hid (x.moves.length<=5900000000000):=by show _<=_;rw [kJ];exact U_ _ (List.getElem_mem hi)
 have Ts:Hid (x.moves.length<=9223372036854775807):=Nat.le_trans HMS.o aq
 have RG:Hid (gO (x.moves.map cj.unit)):=λz hz=>by
  obtain ⟨m,hm,rfl⟩:=List.mem_map.1 hz;exact jM.2.2.2 m hm m.unit aG
 clear LK uM ue U_ kJ;have YR:=ah jM.1;have HV:=ah hV;have eT:=ah hc;have HH:=ah h;have dN:=ah hK
 have iM:(0:Int)<=(i:Int):=ae;have iK:(i:Int)<(c.outs.length:Int):=ae;unfold pI;have uL:=ah ha;clear hr h hc hV hK jM ha;go_enter func63,ntmps63
 go_upto_region 1 with fail
 obtain ⟨W0,hW,x0,Z0,A0⟩:=aV V 32 c.cells;rw [show V.alloc (.cells (C8 c) 32)=W0 from hW.symm];clear hW;obtain ⟨B,hB⟩: ∃B,B=V.heap.size:=⟨_,rfl⟩;rw [<-hB]at A0⊢;have gZ:B≠K:=ae;obtain ⟨-,-,k2,k3,k4,k5,k6,k7⟩:=ay.at A0;rw [uL.o]at k7;have c0:=aC x0 c0;have c1:=aC x0 c1;have c2:=aC x0 c2;have c3:=aC x0 c3;have Cm:=ah A0;have X0:=ah x0;have qB:=ah hB
 clear A0 Z0 x0 hB k2 k3 k4 k5 k6;go_upto_region 2 with fail
 obtain ⟨W1,hW1,x1,Z1,A1⟩:=aV W0 75 x.cells;rw [show W0.alloc (.cells #[.string x.name,.slice x.la x.lines.length x.lc,.bool x.cd,.slice x.ma x.moves.length x.mc] 75)=W1 from hW1.symm];clear hW1 k7 c0 c1 c2 c3;obtain ⟨X,hX⟩: ∃X,X=W0.heap.size:=⟨_,rfl⟩;rw [<-hX]at A1⊢;have LL:X≠K:=bA X0.o.size;have HF:=ah ((HH.o.ext X0.o).ext x1);have HX:=ah A1;have HB:=ah (Cm.o.ext x1);have kX:Hid (aB K V W1):=(X0.o.trans x1).but K;have ig:Hid (Ext w0 W1):=(HV.o.trans X0.o).trans x1;clear hX A1 Z1 x1 HH Cm X0 qB uL iM iK;obtain ⟨e1,he⟩: ∃e',e'=gJ e x.name prev:=⟨_,rfl⟩;have nX:=ah he;clear he;go_upto_region 2 with fail
 go_cut [] (λwx=>FE wx K e1/\aB K W1 wx/\aT wx B 32 c.cells/\aT wx X 75 x.cells)
 case first=>
  as_aux_lemma=>
   obtain ⟨k0,k1,k2,k3,k4,k5,k6,k7⟩:=ay.at HB.o;go_wp2_with fail
   refine (mL w0 W1 K c _ 6 i prev _ x.name aaV.o aq mr.o xv.o dN.o ig.o eT.o YR.o HF.o).mono ?_;rintro e w2 ⟨rfl,hf,hx⟩;have ox:aB K W1 w2:=hx;have hf':FE w2 K e1:=by(rw [nX.o];exact hf)
   have hA':=HX.o.but hx LL;have mQ:=HB.o.but hx gZ
   have HR:=ah (And.intro hf' (And.intro ox (And.intro mQ hA')));clear hf hx hf' ox hA' mQ k0 k1 k2 k3 k4 k5 k6 k7;go_wp2
   go_meet
   exact HR.o
 case rest=>
  obtain ⟨hF,hx,mQ,hA'⟩:=hcut;generalize wc=V1 at*;have HF:=ah hF;have HB:=ah mQ;have HX:=ah hA'
  have kX:=ah (kX.o.trans hx);have ig:=ah (hx.ext ig.o dN.o)
  clear hF hx mQ hA';obtain ⟨e2,he⟩: ∃e',e'=nd e1 (bN 1 2 [(x.lines.length:Int)]) 4:=⟨_,rfl⟩;have pY:=ah he;clear he;go_upto_region 3 with fail
  go_cut [] (λwx=>FE wx K e2/\aB K V1 wx/\aT wx B 32 c.cells/\aT wx X 75 x.cells)
  case first=>
   as_aux_lemma=>
    have c1:=HX.o.cl 1 (.slice x.la x.lines.length x.lc) rfl;have Nn:=U'.o;go_wp2_with fail
    refine (Bq V1 (x.lines.length:Int) 1 2 YQ.o).mono ?_;rintro e w1 ⟨rfl,rfl⟩;go_wp2_with fail
    refine (cZ _ K _ _ _ _ _ _ (HF.o.alloc _)).mono ?_;rintro e w2 ⟨rfl,hf,hx⟩;have ox:aB K V1 w2:=((aB.refl K V1).alloc' _).trans hx;have hf':FE w2 K e2:=by(rw [pY.o];exact hf)
    have hA':=(HX.o.alloc' _).but hx LL;have mQ:=(HB.o.alloc' _).but hx gZ
    have HR:=ah (And.intro hf' (And.intro ox (And.intro mQ hA')));clear hf hx hf' ox hA' mQ c1;go_wp2
    go_meet
    exact HR.o
  case rest=>
   obtain ⟨hF,hx,mQ,hA'⟩:=hcut;generalize wc=V2 at*;have HF:=ah hF;have HB:=ah mQ;have HX:=ah hA'
   have kX:=ah (kX.o.trans hx);have ig:=ah (hx.ext ig.o dN.o)
   clear hF hx mQ hA';obtain ⟨e3,he⟩: ∃e',e'=nd e2 (bN 0 ((c.lines.length:Int)-1) x.lines) 12:=⟨_,rfl⟩;have vt:=ah he;clear he;go_upto_region 4 with fail
   go_cut [] (λwx=>FE wx K e3/\aB K V2 wx/\aT wx B 32 c.cells/\aT wx X 75 x.cells)
   case first=>
    as_aux_lemma=>
     obtain ⟨k0,k1,k2,k3,k4,k5,k6,k7⟩:=ay.at HB.o;have c1:=HX.o.cl 1 (.slice x.la x.lines.length x.lc) rfl;have hwl:=HWL.o;have zn:=HL1.o
     go_wp2_with fail
     refine (fJ _ _ _ x.la x.lc x.lines (oB.o.ext ig.o)).mono ?_;rintro e w1 ⟨rfl,eL⟩;rw [eL];clear eL;go_wp2_with fail
     refine (cZ _ K _ _ _ _ _ _ HF.o).mono ?_;rintro e w2 ⟨rfl,hf,hx⟩;have ox:aB K V2 w2:=hx;have hf':FE w2 K e3:=by(rw [vt.o];exact hf)
     have hA':=HX.o.but hx LL;have mQ:=HB.o.but hx gZ
     have HR:=ah (And.intro hf' (And.intro ox (And.intro mQ hA')));clear hf hx hf' ox hA' mQ k0 k1 k2 k3 k4 k5 k6 k7 c1;go_wp2
     go_meet
     exact HR.o
   case rest=>
    obtain ⟨hF,hx,mQ,hA'⟩:=hcut;generalize wc=V3 at*;have HF:=ah hF;have HB:=ah mQ;have HX:=ah hA'
    have kX:=ah (kX.o.trans hx);have ig:=ah (hx.ext ig.o dN.o)
    clear hF hx mQ hA';obtain ⟨e4,he⟩: ∃e',e'=nd e3 (iY x.lines) 11:=⟨_,rfl⟩;have BF:=ah he;clear he;go_upto_region 5 with fail
    go_cut [] (λwx=>FE wx K e4/\aB K V3 wx/\aT wx B 32 c.cells/\aT wx X 75 x.cells)
    case first=>
     as_aux_lemma=>
      have c1:=HX.o.cl 1 (.slice x.la x.lines.length x.lc) rfl;go_wp2_with fail
      refine (qx _ x.la x.lc x.lines (oB.o.ext ig.o)).mono ?_;rintro e w1 ⟨rfl,x1⟩;have c1:=aC x1 c1;go_wp2_with fail
      refine (cZ _ K _ _ _ _ _ _ (HF.o.ext x1)).mono ?_;rintro e w2 ⟨rfl,hf,hx⟩;have ox:aB K V3 w2:=(x1.but K).trans hx;have hf':FE w2 K e4:=by(rw [BF.o];exact hf)
      have hA':=(HX.o.ext x1).but hx LL;have mQ:=(HB.o.ext x1).but hx gZ
      have HR:=ah (And.intro hf' (And.intro ox (And.intro mQ hA')));clear hf hx hf' ox hA' mQ c1;go_wp2
      go_meet
      exact HR.o
    case rest=>
     obtain ⟨hF,hx,mQ,hA'⟩:=hcut;generalize wc=V4 at*;have HF:=ah hF;have HB:=ah mQ;have HX:=ah hA'
     have kX:=ah (kX.o.trans hx);have ig:=ah (hx.ext ig.o dN.o)
     clear hF hx mQ hA'
     as_aux_lemma=>
      obtain ⟨e5,he⟩: ∃e',e'=nd e4 (x.cd||decide (x.moves.length=0)) 16:=⟨_,rfl⟩;have LM:=ah he;clear he;go_upto_region 6 with fail
      go_cut [] (λwx=>FE wx K e5/\aB K V4 wx/\aT wx B 32 c.cells/\aT wx X 75 x.cells)
      case first=>
       as_aux_lemma=>
        have c2:=HX.o.cl 2 (.bool x.cd) rfl;have c3:=HX.o.cl 3 (.slice x.ma x.moves.length x.mc) rfl;have hz:Hid (((x.moves.length:Int)==0)=decide (x.moves.length=0)):=by(show _=_;rw [Bool.eq_iff_iff];simp;try omega)
        rcases Bool.eq_false_or_eq_true x.cd with hp|hp
        .have HP:=ah hp
         clear hz;go_wp2_with fail
         refine (cZ _ K _ _ _ _ _ _ HF.o).mono ?_;rintro e w2 ⟨rfl,hf,hx⟩;have ox:aB K V4 w2:=hx;have hf':FE w2 K e5:=by(rw [LM.o];rw [HP.o,Bool.true_or];exact hf)
         have hA':=HX.o.but hx LL;have mQ:=HB.o.but hx gZ
         have HR:=ah (And.intro hf' (And.intro ox (And.intro mQ hA')));clear hf hx hf' ox hA' mQ c2 c3;go_wp2
         go_meet
         exact HR.o
        .have HP:=ah hp
         have hq:((x.moves.length:Int)==0)=decide (x.moves.length=0):=hz.o;clear hz;go_wp2_with fail
         refine (cZ _ K _ _ _ _ _ _ HF.o).mono ?_;rintro e w2 ⟨rfl,hf,hx⟩;have ox:aB K V4 w2:=hx;have hf':FE w2 K e5:=by(rw [LM.o];rw [HP.o,Bool.false_or];simpa using hf)
         have hA':=HX.o.but hx LL;have mQ:=HB.o.but hx gZ
         have HR:=ah (And.intro hf' (And.intro ox (And.intro mQ hA')));clear hf hx hf' ox hA' mQ c2 c3;go_wp2
         go_meet
         exact HR.o
      case rest=>
       obtain ⟨hF,hx,mQ,hA'⟩:=hcut;generalize wc=V5 at*;have HF:=ah hF;have HB:=ah mQ;have HX:=ah hA'
       have kX:=ah (kX.o.trans hx);have ig:=ah (hx.ext ig.o dN.o)
       clear hF hx mQ hA';obtain ⟨e6,he⟩: ∃e',e'=nd e5 (decide ((x.moves.length:Int)<=16)) 8:=⟨_,rfl⟩;have RH:=ah he;clear he;go_upto_region 7 with fail
       go_cut [] (λwx=>FE wx K e6/\aB K V5 wx/\aT wx B 32 c.cells/\aT wx X 75 x.cells)
       case first=>
        as_aux_lemma=>
         have c3:=HX.o.cl 3 (.slice x.ma x.moves.length x.mc) rfl;have Va:=Ts.o;go_wp2_with fail
         refine (cZ _ K _ _ _ _ _ _ HF.o).mono ?_;rintro e w2 ⟨rfl,hf,hx⟩;have ox:aB K V5 w2:=hx;have hf':FE w2 K e6:=by(rw [RH.o];exact hf)
         have hA':=HX.o.but hx LL;have mQ:=HB.o.but hx gZ
         have HR:=ah (And.intro hf' (And.intro ox (And.intro mQ hA')));clear hf hx hf' ox hA' mQ c3;go_wp2
         go_meet
         exact HR.o
       case rest=>
        obtain ⟨hF,hx,mQ,hA'⟩:=hcut;generalize wc=V6 at*;have HF:=ah hF;have HB:=ah mQ;have HX:=ah hA'
        have kX:=ah (kX.o.trans hx);have ig:=ah (hx.ext ig.o dN.o)
        clear hF hx mQ hA';have x3:=HX.o.cl 3 (.slice x.ma x.moves.length x.mc) rfl;have Va:=Ts.o;go_wp2_with fail
        clear x3;go_loopw [8,73] (λv ii wr=> ∃i:Nat,i<=x.moves.length/\aL wr V6.heap.size 3 1 v ((x.moves.take i).map λm=> [i64 m.unit])/\Ext V6 wr/\ii= .int .i64 i) (λ_ ii _=>x.moves.length-(intOf ii).toNat)
        case atStart=>exact ⟨0,aZ,aL.nil _ _ _ _,ar,rfl⟩
        case round=>
         obtain ⟨i,hi,hown,hE,rfl⟩:=hrel;have HO:=ah hown;clear hown;by_cases hlt:i<x.moves.length
         .obtain ⟨b,o,ha,m0,m1,m2⟩:=((YP.o.ext ig.o).ext hE).moves i hlt
          have HST:Hid ((x.moves.take (i+1)).map (λm=> [i64 m.unit])=(x.moves.take i).map (λm=> [i64 m.unit])++ [[i64 x.moves[i].unit]]):=by
             show _=_;rw [List.take_succ_eq_append_getElem hlt,List.map_append];rfl
          have HLEN:Hid (((x.moves.take i).map λm=> [i64 m.unit]).length=i):=by show _=_;simp;omega
          generalize (x.moves.take i).map (λm=> [i64 m.unit])=rows at*;obtain ⟨g,hg⟩: ∃g,g=x.moves[i]:=⟨_,rfl⟩;rw [<-hg]at m0 m1 m2 HST;have iM:(0:Int)<=(i:Int):=ae;have iK:(i:Int)<(x.moves.length:Int):=ae;have uL:=ah ha;have vY:=hE.size;have HE:=ah hE
          have HOW:Hid (wr.ownsRow V6.heap.size 3 1 u8 i rows.flatten):=by
             have h5:=HO.o.own;rw [HLEN.o]at h5;exact h5
          clear ha hg hE;rw [uL.o];go_upto_region 12 with fail
          obtain ⟨W2,hW2,x2,Z2,A2⟩:=aV wr 112 g.cells;rw [show wr.alloc (.cells #[i64 g.unit,i64 g.up,i64 g.down] 112)=W2 from hW2.symm];clear hW2;obtain ⟨E,mO⟩: ∃E,E=wr.heap.size:=⟨_,rfl⟩;rw [<-mO]at A2⊢;have z0:W2.cell? ⟨E,0,none⟩=some (i64 g.unit):=(A2.cell 0).trans rfl;have h2s:=x2.size;have eR:=ah x2;clear mO Z2 A2 m0 m1 m2 x2;go_wp2_with (at_builtin;refine su _ rfl (.tmp 77) (.tmp 80) 22 rfl V6.heap.size 3 (.int .i64 0) 1 8 underlying22 Tryz.info_int rfl aq u8 i rows.flatten rfl ?c1 (some ⟨W2.heap.size,0,none⟩) 1 1 [i64 g.unit] rfl rfl ?c2 ?c3 ?c4 ?c5 ?c7 ?c6 ?_;rotate_right;intro v1 w5 ho he hb hz hv)
          case c1=>exact bZ (bZ HOW.o eR.o) (ar.alloc _)
          case c2=>exact λ_=>⟨_,rfl,dH W2 3 [i64 g.unit]⟩
          case c3=>intro u hu;rw [List.mem_singleton]at hu;subst hu;rfl
          case c4=>intro e;cases e
          case c5=>omega
          case c7=>have:=HMS.o;omega
          case c6=>simp;omega
          have x5:Ext V6 w5:=he.o V6 ((HE.o.trans eR.o).alloc _) bY;have jl:=HO.o.snoc (w':=w5) (v':=v1) (r:= [i64 g.unit]) rfl (by rw [HLEN.o];exact ho.o);rw [<-HST.o]at jl;exact ⟨⟨i+1,ae,jl,x5,bf⟩,a_⟩
         .obtain rfl:i=x.moves.length:=ae
          rw [List.take_length]at HO;obtain ⟨ua,uc,rfl,hS,lJ⟩:=HO.o.recs aq;have e1:(x.moves.map λm=> [i64 m.unit])=(x.moves.map cj.unit).map λz=> [i64 z]:=by rw [List.map_map];rfl
          rw [e1]at hS;have hUI:aS wr ua uc (x.moves.map cj.unit):=aS.nC hS RG.o;obtain ⟨us,RI⟩: ∃us,us=x.moves.map cj.unit:=⟨_,rfl⟩;have Ov:=ah RI;rw [<-RI]at hUI;have ue:(x.moves.map λm=> [i64 m.unit]).length=us.length:=by rw [RI,List.length_map,List.length_map]
          rw [ue]
          have hUN: ∀p,ua=some p->p.block≠K:=λp hp=>by
             have h1:=lJ p hp;have h2:=HF.o.lt
             omega
          have Vb:=ah hUN;have vA:=ah (HF.o.ext hE);have BC:=ah (HB.o.ext hE);have eC:=ah (HX.o.ext hE)
          have Dt:=ah (ig.o.trans hE);have Du:=ah (kX.o.trans (hE.but K));have Ow:=ah hUI
          clear HF HB HX ig kX;have HF:=vA;have HB:=BC;have HX:=eC;have ig:=Dt;have kX:=Du
          clear vA BC eC Dt Du hS e1 HO hUI RI hE ue Va hi hlt hUN lJ;obtain ⟨-,-,-,-,k4,-,-,-⟩:=ay.at HB.o;have hwu:=HWU.o;have hl2:=Tr.o
          obtain ⟨e7,he⟩: ∃e',e'=nd e6 (bN 0 ((c.aA.length:Int)-1) us) 12:=⟨_,rfl⟩;have RJ:=ah he;clear he;go_wp2_with fail
          refine (fJ _ _ _ ua uc us Ow.o).mono ?_;rintro e5 w1 ⟨rfl,rfl⟩;clear hwu hl2;go_wp2_with fail
          refine (cZ _ K _ _ _ _ _ _ HF.o).mono ?_;rintro e5 W6 ⟨rfl,Ou,jA⟩;rw [<-RJ.o]at Ou;have Vc:Hid (aS W6 ua uc us):=Ow.o.eH jA Vb.o;have HF6:=ah Ou;have FT:Hid (aT W6 X 75 x.cells):=HX.o.but jA LL
          have Vd:=ah (kX.o.trans jA);obtain ⟨e8,he⟩: ∃e',e'=nd e7 (iY us) 11:=⟨_,rfl⟩;have HQ8:=ah he;clear he Ou jA k4 HF HX kX ig HB Ow;go_wp2_with fail
          refine (qx _ ua uc us Vc.o).mono ?_;rintro e5 w7 ⟨rfl,x7⟩;go_wp2_with fail
          refine (cZ _ K _ _ _ _ _ _ (HF6.o.ext x7)).mono ?_;rintro e5 W8 ⟨rfl,hF8,iu⟩;rw [<-HQ8.o]at hF8;have HF:=ah hF8;have HX:Hid (aT W8 X 75 x.cells):=(FT.o.ext x7).but iu LL
          have kX:=ah ((Vd.o.trans (x7.but K)).trans iu);clear hF8 iu x7 HF6 FT Vd Vc;have x3:=HX.o.cl 3 (.slice x.ma x.moves.length x.mc) rfl;have Va:=Ts.o;go_wp2_with fail
          clear x3 Va;go_loopw [102] (λii wr=> ∃i:Nat,i<=x.moves.length/\FE wr K (nd e8 ((x.moves.take i).all yQ) 3)/\aB K V wr/\ii= .int .i64 i) (λii _=>x.moves.length-(intOf ii).toNat)
          case atStart=>exact ⟨0,aZ,by simpa [bI]using HF.o,kX.o,rfl⟩
          case round=>
             obtain ⟨i,hi,hF,hX,rfl⟩:=hrel;clear HF kX HX;have Va:=Ts.o;by_cases hlt:i<x.moves.length
             .have hE:=hX.ext HV.o dN.o
              obtain ⟨b,o,ha,m0,m1,m2⟩:=(YP.o.ext hE).moves i hlt;have HT:=ah (FQ x.moves i hlt);have Kd:=HMI.o x.moves[i] (List.getElem_mem hlt);generalize (x.moves.take i).all yQ=q at*;obtain ⟨g,hg⟩: ∃g,g=x.moves[i]:=⟨_,rfl⟩;rw [<-hg]at m0 m1 m2 HT Kd;have aaZ:=ah (Kd g.up aG);have aa0:=ah (Kd g.down aG)
              have HF:=ah hF;have HX:=ah hX;have YO:=ah (nZ e8 q (yQ g) 3 aq)
              have uL:=ah ha;have iM:(0:Int)<=(i:Int):=ae;have iK:(i:Int)<(x.moves.length:Int):=ae;clear hF hX hE hg Kd ha;rw [uL.o];go_upto_region 19 with fail
              obtain ⟨W2,hW2,x2,Z2,A2⟩:=aV wr 112 g.cells;rw [show wr.alloc (.cells #[i64 g.unit,i64 g.up,i64 g.down] 112)=W2 from hW2.symm];clear hW2;obtain ⟨E,mO⟩: ∃E,E=wr.heap.size:=⟨_,rfl⟩;rw [<-mO]at A2⊢;have z1:W2.cell? ⟨E,1,none⟩=some (i64 g.up):=(A2.cell 1).trans rfl;have z2:W2.cell? ⟨E,2,none⟩=some (i64 g.down):=(A2.cell 2).trans rfl;have Iq:=ah (HF.o.ext x2);have eR:Hid (aB K V W2):=HX.o.trans (x2.but K)
              clear mO Z2 A2 m0 m1 m2 x2;go_wp2_with fail
              refine (aaU W2 g.up g.down 0 1048576 aaZ.o aa0.o).mono ?_;rintro e6 w1 ⟨rfl,rfl⟩;go_wp2_with fail
              refine (cZ _ K _ _ _ _ _ _ (Iq.o.alloc _)).mono ?_;rintro e6 W4 ⟨rfl,FD,gG⟩;have PO:=ah FD;have pV:Hid (aB K V W4):=(eR.o.alloc' _).trans gG;clear FD gG z1 z2;go_wp2
              exact ⟨⟨i+1,ae,by rw [HT.o,<-YO.o];exact PO.o,pV.o,bf⟩,a_⟩
             .obtain rfl:i=x.moves.length:=ae
              rw [List.take_length]at hF;have HF:=ah hF;have HX:=ah hX
              clear hF hX;go_wp2
              exact bodyPost_end (v:= .tuple #[]) ax rfl ⟨rfl,by rw [<-Ov.o,<-nX.o,<-pY.o,<-vt.o,<-BF.o,<-LM.o,<-RH.o,<-RJ.o,<-HQ8.o];exact HF.o,HX.o⟩
structure oX (c:ay):Prop where
 aF:c.aF.length<=1000000
 lines:c.lines.length<=1000000
 aA:c.aA.length<=1000000
 stores:c.stores.length<=1000000
 bh:c.bh.length<=1000000
 outs:c.outs.length<=1000000
 moves: ∀o∈c.outs,o.moves.length<=5900000000000
theorem oX.names {c:ay} (h:oX c) (k:Int):(dV c k).length<=1000000:=by
 unfold dV;have h1:=h.aF;have h2:=h.lines;have h3:=h.aA;have h4:=h.stores;have h5:=h.bh;have h6:=h.outs
 repeat' split
 all_goals simp
 all_goals assumption
def jN (c:ay) (e:Int) (n:Nat):Int:=(List.range n).foldl (λe (j:Nat)=>nd e (decide (((dV c ((j:Int)+2)).length:Int)<=ln ((j:Int)+2))) 8) e
theorem fL (c:ay) (e:Int) (n:Nat):jN c e (n+1)=nd (jN c e n) (decide (((dV c ((n:Int)+2)).length:Int)<=ln ((n:Int)+2))) 8:=by
 unfold jN;rw [List.range_succ,List.foldl_append];rfl
def iN (c:ay) (e:Int):Int:=jN c (nd (gm (nd e (bN 1 24 [c.hours]) 3) c c.aX 0 1048576) (bN 1 32 [(c.aF.length:Int)]) 8) 5
theorem I' (w0 V:World) (K:Nat) (c:ay) (e:Int) (hK:w0.heap.size<=K) (hV:Ext w0 V) (hc:bm w0 c) (hl:oX c) (h:FE V K e):
 Calls prog 54 #[.pointer (some ⟨K,0,none⟩),.agg (C8 c)] V λe' w'=>tV V K (iN c e) e' w':=by
 try unfold C8
 have Nq:=h.lt;have hbl:c.aF.length<=9223372036854775807:=bA hl.aF;unfold iN;obtain ⟨e1,EF⟩: ∃e1,e1=nd e (bN 1 24 [c.hours]) 3:=⟨_,rfl⟩;obtain ⟨e2,Nr⟩: ∃e2,e2=gm e1 c c.aX 0 1048576:=⟨_,rfl⟩;obtain ⟨e3,PT⟩: ∃e3,e3=nd e2 (bN 1 32 [(c.aF.length:Int)]) 8:=⟨_,rfl⟩;rw [<-EF,<-Nr,<-PT];have nX:=ah EF;have pY:=ah Nr;have vt:=ah PT
 have BG:=ah hc.hours;have Ja:=ah (zX hbl);have GR:=ah hc.aX
 have eT:=ah hc;have HV:=ah hV;have dN:=ah hK;have HH:=ah h;have Dv:=ah hl
 clear EF Nr PT hc hV hK h hl;go_enter func54,ntmps54
 go_upto_region 1 with fail
 obtain ⟨W0,hW,x0,Z0,A0⟩:=aV V 32 c.cells;rw [show V.alloc (.cells (C8 c) 32)=W0 from hW.symm];clear hW;obtain ⟨B,hB⟩: ∃B,B=V.heap.size:=⟨_,rfl⟩;rw [<-hB]at A0⊢;have gZ:B≠K:=ae;have HF:=ah (HH.o.ext x0);have HB:=ah A0;have kX:=ah (x0.but K);have ig:=ah (HV.o.trans x0)
 clear A0 Z0 x0 hB HH;obtain ⟨k0,-⟩:=ay.at HB.o;go_wp2_with fail
 refine (Bq W0 c.hours 1 24 BG.o).mono ?_;rintro e' w1 ⟨rfl,rfl⟩;go_wp2_with fail
 refine (cZ _ K _ _ _ _ _ _ (HF.o.alloc _)).mono ?_;rintro e' W1 ⟨rfl,hf,hx⟩;rw [<-nX.o]at hf;have vA:=ah hf;have BC:=ah ((HB.o.alloc' _).but hx gZ);have ox:=((aB.refl K W0).alloc' _).trans hx
 have Du:=ah (kX.o.trans ox);have Dt:=ah (ox.ext ig.o dN.o)
 clear hf hx ox k0 HF HB kX ig;obtain ⟨k0,k1,k2,k3,k4,k5,k6,k7⟩:=ay.at BC.o;go_wp2_with fail
 refine (qA w0 W1 K c _ c.ra c.rc c.aX _ _ _ _ _ dN.o Dt.o GR.o vA.o).mono ?_;rintro e' W2 ⟨rfl,hf,hx⟩;rw [<-pY.o]at hf;have HF:=ah hf;have HB:=ah (BC.o.but hx gZ)
 have kX:=ah (Du.o.trans hx);have ig:=ah (hx.ext Dt.o dN.o)
 clear hf hx k0 k1 k2 k3 k4 k5 k6 k7 vA BC Du Dt;obtain ⟨-,-,k2,-⟩:=ay.at HB.o;go_wp2_with fail
 refine (Bq W2 (c.aF.length:Int) 1 32 Ja.o).mono ?_;rintro e' w1 ⟨rfl,rfl⟩;go_wp2_with fail
 refine (cZ _ K _ _ _ _ _ _ (HF.o.alloc _)).mono ?_;rintro e' W3 ⟨rfl,hf,hx⟩;rw [<-vt.o]at hf;have vA:=ah hf;have BC:=ah ((HB.o.alloc' _).but hx gZ);have ox:=((aB.refl K W2).alloc' _).trans hx
 have Du:=ah (kX.o.trans ox);have Dt:=ah (ox.ext ig.o dN.o)
 clear hf hx ox k2 HF HB kX ig hbl;go_wp2
 go_loopw [4] (λii wr=> ∃n:Nat,n<=5/\FE wr K (jN c e3 n)/\aB K V wr/\aT wr B 32 c.cells/\ii= .int .i64 ((n:Int)+2)) (λii _=>(7-intOf ii).toNat)
 case atStart=>exact ⟨0,ae,vA.o,Du.o,BC.o,rfl⟩
 case round=>
  obtain ⟨n,hn,hF,hX,hB,rfl⟩:=hrel;clear vA Du BC Dt;by_cases hlt:n<5
  .have HF:=ah hF;have HX:=ah hX;have HB:=ah hB
   have ig:=ah (hX.ext HV.o dN.o);have HS:=ah (fL c e3 n);obtain ⟨yu,zA⟩: ∃yu,dV c ((n:Int)+2)=yu:=⟨_,rfl⟩;have Tt:yu.length<=1000000:=by rw [<-zA];exact Dv.o.names _
   have FC:=ah zA;rw [zA]at HS;have HMO:=ah (λU=>LA U ((n:Int)+2) ae);have HNA:=ah (zN w0 wr c ((n:Int)+2) yu zA ae ig.o eT.o Tt);generalize ln ((n:Int)+2)=mo at*;generalize jN c e3 n=e4 at*;obtain ⟨k0,k1,k2,k3,k4,k5,k6,k7⟩:=ay.at hB;clear hF hX hB zA;go_wp2_with fail
   refine HNA.o.mono ?_;rintro e' w1 ⟨a,cap,rfl,hS,x1,-⟩;have eC:=ah x1;clear k0 k1 k2 k3 k4 k5 k6 k7 hS x1;go_wp2_with fail
   refine (HMO.o w1).mono ?_;rintro e' w2 ⟨rfl,x2⟩;have eR:=ah (eC.o.trans x2);clear x2;go_wp2_with fail
   refine (cZ w2 K _ _ _ _ _ _ (HF.o.ext eR.o)).mono ?_;rintro e' w3 ⟨rfl,hf,hx⟩;rw [<-HS.o]at hf;have HR:=ah hf;have nk:=ah ((HB.o.ext eR.o).but hx gZ);have sw:=ah (HX.o.trans ((eR.o.but K).trans hx));clear hf hx;go_wp2
   exact ⟨⟨n+1,ae,HR.o,sw.o,nk.o,bf⟩,a_⟩
  .obtain rfl:n=5:=ae
   go_wp2
   exact bodyPost_end (v:= .tuple #[]) ax rfl ⟨rfl,hF,hX⟩
def uf (c:ay) (i:Nat):List Int:=(c.lines[i]?.map bn.away).getD []
theorem zY {c:ay} {i:Nat} (h:i<c.lines.length):uf c i=c.lines[i].away:=by unfold uf;rw [List.getElem?_eq_getElem h];rfl
def dz (c:ay) (h:Int) (n:Nat):List Nat:=(List.range n).filter λi=> !hasB (uf c i) h
theorem uN (c:ay) (h:Int) (n:Nat):dz c h (n+1)=if hasB (uf c n) h=true then dz c h n else dz c h n++ [n]:=by
 unfold dz;rw [List.range_succ,List.filter_append];cases q:hasB (uf c n) h<;>simp [q]
theorem i5 (c:ay) (h:Int) (n:Nat):(dz c h n).length<=n:=by
 have:=List.length_filter_le (λi=> !hasB (uf c i) h) (List.range n);rw [List.length_range]at this;exact this
theorem jO (c:ay) (h:Int) (n:Nat): ∀i∈dz c h n,i<n:=λi hi=>List.mem_range.1 (List.mem_filter.1 hi).1
def gp (l:List Nat):List (List Value):=l.map λ(j:Nat)=> [i64 (j:Int)]
theorem nD (l:List Nat) (n:Nat):gp (l++ [n])=gp l++ [[i64 (n:Int)]]:=by simp [gp]
theorem eh (l:List Nat):(gp l).length=l.length:=by simp [gp]
def aR (l:List Nat):List Int:=l.map λ(j:Nat)=>(j:Int)
theorem nE (l:List Nat):gp l=(aR l).map λz=> [i64 z]:=by simp [gp,aR]
theorem lY {l:List Nat} {n:Nat} (h: ∀i∈l,i<n) (hn:n<=9223372036854775807):gO (aR l):=λz hz=>by
 obtain ⟨j,hj,rfl⟩:=List.mem_map.1 hz;have:=h j hj;unfold b_;omega
theorem aN (l:List Nat):(aR l).length=l.length:=by simp [aR]
theorem yR (w0 V:World) (c:ay) (h:Int) (hV:Ext w0 V) (hc:bm w0 c) (hn:c.lines.length<=1000000):
 Calls prog 108 #[.agg (C8 c),i64 h] V λe w'=> ∃a cap,e= .returned (.slice a (dz c h c.lines.length).length cap)/\aS w' a cap (aR (dz c h c.lines.length))/\Ext V w'/\Fr V.heap.size a:=by
 try unfold C8
 have hr:=hc.lines;have hle:=hr.le;have dS:=hr.cap
 rw [List.length_map]at hle;have HR:=ah hr;have HV:=ah hV;have HN:=ah hn;have PU:=ah hc.line
 clear hc hr hV hn;go_enter func108,ntmps108
 go_upto_region 1 with fail
 obtain ⟨W,hW,x0,Z0,A0⟩:=aV V 32 c.cells;rw [show V.alloc (.cells (C8 c) 32)=W from hW.symm];clear hW;have HA:=ah A0;have HX:=ah x0
 obtain ⟨B,hB⟩: ∃B,B=V.heap.size:=⟨_,rfl⟩;rw [<-hB]at HA⊢;clear A0 x0 Z0;have qB:=ah hB;clear hB;go_wp2
 go_loopw [5,6] (λv ii wr=> ∃i:Nat,i<=c.lines.length/\aL wr W.heap.size 3 1 v (gp (dz c h i))/\Ext W wr/\ii= .int .i64 i) (λ_ ii _=>c.lines.length-(intOf ii).toNat)
 case atStart=>exact ⟨0,aZ,aL.nil _ _ _ _,ar,rfl⟩
 case round=>
  obtain ⟨i,hi,hown,hE,rfl⟩:=hrel;have HO:=ah hown;obtain ⟨-,-,-,k3,-⟩:=ay.at (HA.o.ext hE);clear hown;by_cases hlt:i<c.lines.length
  .obtain ⟨b,o,ha,-,-,-,-,-,-,-,-,-,-,-,c11⟩:=((HR.o.ext HV.o).ext (HX.o.trans hE)).lines i hlt
   have PW:=(PU.o c.lines[i] (List.getElem_mem hlt)).2.1;have HST:=ah (uN c h i);have jg:=ah (Bp wr _ _ _ h ((PW.ext HV.o).ext (HX.o.trans hE)));rw [zY hlt]at HST;generalize c.lines[i]=x at*;have HLEN:=ah (i5 c h i);generalize dz c h i=l at*;rw [ha]at k3;have iM:(0:Int)<=(i:Int):=ae;have iK:(i:Int)<(c.lines.length:Int):=ae;have HE:=ah hE;have vY:=hE.size
   clear ha hE PW;rcases Bool.eq_false_or_eq_true (hasB x.away h)with hq|hq
   .rw [hq]at jg HST
    clear hq;go_wp2_with fail
    refine jg.o.mono ?_;rintro e w1 ⟨rfl,eL⟩;rw [eL];clear eL
    go_wp2
    exact ⟨⟨i+1,ae,by rw [HST.o];simpa using HO.o,HE.o,bf⟩,a_⟩
   .rw [hq]at jg HST
    clear hq
    have HOW:Hid (wr.ownsRow W.heap.size 3 1 u5 l.length (gp l).flatten):=by
     have h5:=HO.o.own;rw [eh]at h5;exact h5
    go_wp2_with fail
    refine jg.o.mono ?_;rintro e w1 ⟨rfl,eL⟩;rw [eL];clear eL
    go_wp2_with (at_builtin;refine bC _ rfl (.tmp 23) (.tmp 25) 22 rfl W.heap.size 3 (.int .i64 0) 1 8 underlying22 Tryz.info_int rfl aq u5 l.length (gp l).flatten rfl ?c1 (some ⟨wr.heap.size,0,none⟩) 1 1 [i64 (i:Int)] rfl rfl ?c2 ?c3 ?c4 ?c5 aq ?c6 ?_;rotate_right;intro v1 w5 ho he hb hz hv)
    case c1=>exact bZ HOW.o (ar.alloc _)
    case c2=>exact λ_=>⟨_,rfl,dH wr 3 [i64 (i:Int)]⟩
    case c3=>intro u hu;rw [List.mem_singleton]at hu;subst hu;rfl
    case c4=>intro e;cases e
    case c5=>have:=HN.o;have:=HLEN.o;omega
    case c6=>have:=vY;simp;omega
    have x5:Ext W w5:=he.o W (HE.o.alloc _) bY;have jl:=HO.o.snoc (w':=w5) (v':=v1) (r:= [i64 (i:Int)]) rfl (by rw [eh];exact ho.o);rw [<-nD]at jl;exact ⟨⟨i+1,ae,by rw [HST.o];simpa using jl,x5,bf⟩,a_⟩
  .obtain rfl:i=c.lines.length:=ae
   obtain ⟨a,cap,rfl,hS,lJ⟩:=HO.o.recs aq;rw [eh];rw [nE]at hS;have HI:=ah (aS.nC hS (lY (jO c h _) ae));have vZ:=ah lJ;clear hS lJ HO;go_wp2
   go_ret;exact ⟨a,cap,rfl,HI.o,HX.o.trans hE,vZ.o.mono HX.o.size⟩
def yS (l:List Int) (n:Nat):Nat:=(List.range n).countP λb=>gw l b==(b:Int)
theorem Jb (l:List Int) (n:Nat):yS l (n+1)=yS l n+if(gw l n==(n:Int))=true then 1 else 0:=by
 unfold yS;rw [List.range_succ,List.countP_append,List.countP_singleton]
theorem Ox (l:List Int) (n:Nat):yS l n<=n:=by
 unfold yS;have:=List.countP_le_length (p:=λb:Nat=>gw l b==(b:Int)) (l:=List.range n);rw [List.length_range]at this;exact this
theorem zZ (w:World) (a:Option Addr) (c:Nat) (l:List Int) (h:aS w a c l):
 Calls prog 109 #[.slice a l.length c] w λe w'=>e= .returned (i64 (yS l l.length))/\w'=w:=by
 have hle:=h.le;have dS:=h.cap
 have HL:=ah h;clear h;go_enter func109,ntmps109
 go_wp2
 go_loopw [3,4] (λnn ii wr=> ∃i:Nat,i<=l.length/\wr=w/\nn= .int .i64 (yS l i)/\ii= .int .i64 i) (λ_ ii _=>l.length-(intOf ii).toNat)
 case atStart=>exact ⟨0,aZ,rfl,rfl,rfl⟩
 case round=>
  obtain ⟨i,hi,hw,rfl,rfl⟩:=hrel;subst hw;by_cases hlt:i<l.length
  .obtain ⟨b,o,rfl,c0⟩:=HL.o.cell i hlt
   rw [<-fo hlt]at c0;have HC:=ah (Jb l i);have YK:=Ox l i;generalize yS l i=q at*;obtain ⟨x,hx⟩: ∃x,x=gw l i:=⟨_,rfl⟩;rw [<-hx]at c0 HC;clear hx;have iM:(0:Int)<=(i:Int):=ae;have iK:(i:Int)<(l.length:Int):=ae;rcases Bool.eq_false_or_eq_true (x==(i:Int))with hq|hq
   .have HQ:=ah hq
    go_wp2
    exact ⟨⟨i+1,ae,by first|trivial|rfl,by rw [HC.o,HQ.o,if_pos rfl];go_num,bf⟩,a_⟩
   .have HQ:=ah hq
    go_wp2
    exact ⟨⟨i+1,ae,by first|trivial|rfl,by rw [HC.o,HQ.o,if_neg aq];rfl,bf⟩,a_⟩
  .obtain rfl:i=l.length:=ae
   go_wp2
   go_ret;exact ⟨rfl,rfl⟩
section
variable{P:Program} (w:World)
theorem i6 {o:Oper} {a:Act} {Q:Exit->Act->World->Prop} {K:Act->World->Prop} (s x:Operand) (t:TypeId)
 (ho:o.op= .call {callee:= .builtin .append,args:= #[s,x],argTypes:= #[t,t]})
 (base:Nat) (e:TypeId) (z:Value) (size bytes:Nat) (ht:P.underlying t=some (.slice e)) (iR:(P.info? e).map (λi=>(i.zero,i.size,i.bytes))=some (some z,size,bytes)) (hzs:z.cells.size=size) (hsz:0<size)
 (v:Value) (n:Nat) (xs:List Value) (hs:a.eval s=v) (hown:w.ownsRow base e size v n xs)
 (xa:Option Addr) (m c:Nat) (news:List Value) (hx:a.eval x= .slice xa m c) (hl:news.length=m*size) (hnews:0<m-> ∃ad,xa=some ad/\ ∀j u,news[j]?=some u->w.cell? (ad.add j)=some u) (h1: ∀u∈news,u.oneCell'=true)
 (hnil:xa=none->m=0/\c=0)
 (h63:n+m<=1200000000000) (hbytes:bytes<=100) (hbase:base<=w.heap.size)
 (h: ∀v' w',Hid (w'.ownsRow base e size v' (n+m) (xs++news))->Hid (∀a0,Ext a0 w->a0.heap.size<=base->Ext a0 w')->Hid (∀k,k<w.heap.size->some k≠v.ownBlock->w'.heap[k]?=w.heap[k]?)->Hid (w.heap.size<=w'.heap.size)->Hid (v'.ownBlock=v.ownBlock\/ ∃g,v'.ownBlock=some g/\w.heap.size<=g)->K (a.put o.dst v') w') (hm:0<m):Oper.wp P o a w K Q:=by
 obtain ⟨i,hi,hz,hsize,hby⟩:=info_parts iR;have hlt:=hown.lt;have hb:(n+m)*bytes<=140737488355328:=Nat.le_trans (Nat.mul_le_mul h63 hbytes) aq;have vg:n+m<=maxLen:=by unfold maxLen;omega
 cases xa with
 |none=>
  obtain ⟨rfl,rfl⟩:=hnil rfl;omega
 |some ad=>
  have nc: ∀j u,news[j]?=some u->w.cell? (ad.add j)=some u:=by
   intro j u hu;by_cases hm:0<m
   .obtain ⟨ZJ,e',hh⟩:=hnews hm;cases e';exact hh j u hu
   .have:news= []:=List.eq_nil_of_length_eq_zero (by rw [hl];have:m=0:=ae
                                                     simp [this])
    rw [this]at hu;simp at hu
  obtain ⟨v',w',hr,h2,h3,h4,h5⟩:=iT (P:=P) w base t o.type e i z size bytes ht hi hz hsize hby hzs hsz v n xs hown ad m c news hl nc h1 vg hb hbase;unfold Oper.wp execOp;simp only [ho,resolve,invoke,builtin,Sem.run_bind,Sem.run_pure,Result.andThen_ok,List.map_toArray,List.map_cons,List.map_nil,hs,hx,hr];refine (h v' w' h2 (λa0 ha hb0=>⟨ha.below.trans ⟨h3.os,h3.tape,h3.output,h3.size,λk hk=>h3.block k (bA ha.size) (λe'=>bA (hlt k e'.symm))⟩,Nat.le_trans ha.drawn h4⟩) h3.block h3.size h5)
end
theorem Tryz.info_pair:(Tryz.prog.info? 163).map (λi=>(i.zero,i.size,i.bytes))=some (some (.agg #[i64 0,i64 0]),2,16):=ax
def lq (c:ay) (i:Nat):Int×Int:=((c.lines[i]?.map bn.dL).getD 0,(c.lines[i]?.map bn.ld).getD 0)
theorem pJ {c:ay} {i:Nat} (h:i<c.lines.length):lq c i=(c.lines[i].dL,c.lines[i].ld):=by unfold lq;rw [List.getElem?_eq_getElem h];rfl
def iG (c:ay) (l:List Nat):List (Int×Int):=l.map (lq c)
def gC (l:List (Int×Int)):List (List Value):=l.map λp=> [i64 p.1,i64 p.2]
theorem og (l:List (Int×Int)):(gC l).length=l.length:=by simp [gC]
theorem yT (c:ay) (l:List Nat) (k:Nat) (h:k<l.length):gC (iG c (l.take (k+1)))=gC (iG c (l.take k))++ [[i64 (lq c l[k]).1,i64 (lq c l[k]).2]]:=by
 unfold gC iG;rw [List.take_succ_eq_append_getElem h,List.map_append,List.map_append];rfl
theorem Jc (w0 V:World) (c:ay) (h:Int) (hV:Ext w0 V) (hc:bm w0 c) (hn:c.lines.length<=1000000):
 Calls prog 64 #[.agg (C8 c),i64 h] V λe w'=> ∃a cap b cb,e= .returned (.tuple #[.slice a (dz c h c.lines.length).length cap,.slice b (dz c h c.lines.length).length cb])/\ct w' 2 a cap (gC (iG c (dz c h c.lines.length)))/\aS w' b cb (aR (dz c h c.lines.length))/\Ext V w'/\Fr V.heap.size a/\Fr V.heap.size b:=by
 try unfold C8
 have hr:=hc.lines;have hle:=hr.le;have dS:=hr.cap
 rw [List.length_map]at hle;obtain ⟨l,hl⟩: ∃l,dz c h c.lines.length=l:=⟨_,rfl⟩;have uM:l.length<=1000000:=by rw [<-hl];exact Nat.le_trans (i5 _ _ _) hn
 have hlt: ∀i∈l,i<c.lines.length:=by rw [<-hl];exact jO c h _
 have vH:=ah (λV' (x:Ext w0 V')=>yR w0 V' c h x hc hn);rw [hl]at vH⊢;have HR:=ah hr;have HV:=ah hV;have AH:=ah hlt;have tC:=ah uM
 clear hc hr hV hn hl hlt;go_enter func64,ntmps64
 go_upto_region 1 with fail
 obtain ⟨W0,hW,x0,Z0,A0⟩:=aV V 32 c.cells;rw [show V.alloc (.cells (C8 c) 32)=W0 from hW.symm];clear hW;have Cm:=ah A0;have tK:=ah x0
 obtain ⟨B,hB⟩: ∃B,B=V.heap.size:=⟨_,rfl⟩;rw [<-hB]at Cm⊢;clear A0 x0 Z0;have qB:=ah hB;clear hB;obtain ⟨k0,k1,k2,k3,k4,k5,k6,k7⟩:=ay.at Cm.o;go_wp2_with fail
 refine (vH.o W0 (HV.o.trans tK.o)).mono ?_;rintro e W ⟨a,cap,rfl,hI,x1,lJ⟩;have HI:=ah hI;have HX:=ah (tK.o.trans x1);have HA:=ah (Cm.o.ext x1);have jq:Hid (Fr V.heap.size a):=lJ.mono tK.o.size
 have sy:=hI.le;have Dw:=hI.cap
 rw [aN]at sy;clear hI x1 lJ k0 k1 k2 k3 k4 k5 k6 k7 tK Cm vH;go_wp2
 go_loopw [7,15] (λv ii wr=> ∃k:Nat,k<=l.length/\aL wr W.heap.size 163 2 v (gC (iG c (l.take k)))/\Ext W wr/\ii= .int .i64 k) (λ_ ii _=>l.length-(intOf ii).toNat)
 case atStart=>exact ⟨0,aZ,aL.nil _ _ _ _,ar,rfl⟩
 case round=>
  obtain ⟨k,hk,hown,hE,rfl⟩:=hrel;have HO:=ah hown;clear hown;by_cases hlt:k<l.length
  .obtain ⟨ab,ao,hab,i0⟩:=(HI.o.ext hE).cell k (by rw [aN];exact hlt)
   have EB:=AH.o l[k] (List.getElem_mem hlt);have e0:(aR l)[k]'(by rw [aN];exact hlt)=((l[k]:Nat):Int):=by simp [aR]
   rw [e0]at i0;have HST:=ah (yT c l k hlt);rw [pJ EB]at HST;obtain ⟨b,o,ha,-,g1,g2,-⟩:=((HR.o.ext HV.o).ext HX.o).lines l[k] EB;obtain ⟨-,-,-,k3,-⟩:=ay.at HA.o;rw [ha]at k3;have oB:Hid ((gC (iG c (l.take k))).length=k):=by show _=_;rw [og];simp [iG];omega
   have oB:Hid ((gC (iG c (l.take k))).length<=1000000):=by show _<=_;rw [oB.o];omega
   generalize c.lines[l[k]]=x at*;generalize gC (iG c (l.take k))=rows at*;generalize l[k]=j at*;have iM:(0:Int)<=(k:Int):=ae;have iK:(k:Int)<(l.length:Int):=ae;have Tj:(0:Int)<=(j:Int):=ae;have Tk:(j:Int)<(c.lines.length:Int):=ae;have HE:=ah hE;have vY:=hE.size
   have HOW:Hid (wr.ownsRow W.heap.size 163 2 u7 rows.length rows.flatten):=HO.o.own;have Cn:=ah hab;clear ha hE hab e0;rw [Cn.o];go_wp2_with fail
   refine aO (λw'=>w'.cell? ⟨B,3,none⟩=some (.slice (some ⟨b,o,none⟩) c.lines.length c.lc)/\w'.cell? ⟨b,o+j*12+1,none⟩=some (i64 x.dL)/\w'.cell? ⟨b,o+j*12+2,none⟩=some (i64 x.ld)) (λw'=>True) (λi=>false) ax (⟨aC HE.o.drew k3,aC HE.o.drew g1,aC HE.o.drew g2⟩) (trivial) (λaD ai=> ?_);refine aJ 0 aD ai ?_ (v:=u7);refine aJ 1 aD ai ?_;refine aJ 2 aD ai ?_;refine aJ 3 aD ai ?_ (v:= .int .i64 (j:Int));refine aJ 4 aD ai ?_;refine aJ 5 aD ai ?_;refine aJ 6 aD ai ?_ (v:=i64 x.dL);refine aJ 7 aD ai ?_;refine aJ 8 aD ai ?_;refine aJ 9 aD ai ?_ (v:= .int .i64 (j:Int));refine aJ 10 aD ai ?_;refine aJ 11 aD ai ?_;refine aJ 12 aD ai ?_ (v:=i64 x.ld);refine aJ 13 aD ai ?_ (v:= .agg #[i64 x.dL,i64 x.ld]);refine eI 14 rfl (λKc hK=> ?_);go_simp;refine hK.o _ _ (⟨aC (HE.o.drew.alloc _) k3,aC (HE.o.drew.alloc _) g1,aC (HE.o.drew.alloc _) g2⟩) (trivial) (λaD ai=> ?_);clear hK Kc;try simp only [sS]
   refine eI 15 rfl (λKc hK=> ?_);rw [if_pos eN];refine i6 _ (.tmp 19) (.tmp 33) 122 rfl W.heap.size 163 (.agg #[i64 0,i64 0]) 2 16 underlying122 Tryz.info_pair rfl aq u7 rows.length rows.flatten rfl ?c1 (some ⟨wr.heap.size,0,none⟩) 1 1 [i64 x.dL,i64 x.ld] rfl rfl ?c2 ?c3 ?c4 ?c5 aq ?c6 ?c7 aq
   case c1=>exact bZ HOW.o ((Ext.refl wr).drew.alloc _)
   case c2=>exact λ_=>⟨_,rfl,dH wr.drew 163 [i64 x.dL,i64 x.ld]⟩
   case c3=>intro u hu;simp only [List.mem_cons,List.not_mem_nil,or_false]at hu;rcases hu with rfl|rfl<;>rfl
   case c4=>intro e;cases e
   case c5=>have:=oB.o;omega
   case c6=>exact Nat.le_trans vY ((Ext.refl wr).drew.alloc _).size
   intro v1 w5 ho he hb hz hv;have x5:Ext W w5:=he.o W (HE.o.drew.alloc _) bY;refine hK.o _ _ (⟨aC x5 k3,aC x5 g1,aC x5 g2⟩) (trivial) (λaD ai=> ?_);clear hK Kc;try simp only [sS]
   refine aJ 16 aD ai ?_ (v:=v1);refine aI ax ?_ _;clear aD ai;have jl:=HO.o.snoc (w':=w5) (v':=v1) (r:= [i64 x.dL,i64 x.ld]) rfl ho.o;rw [<-HST.o]at jl;go_wp2
   exact ⟨⟨k+1,ae,jl,x5,bf⟩,a_⟩
  .obtain rfl:k=l.length:=ae
   rw [List.take_length]at HO;obtain ⟨pa,pc,rfl,hS,lJ⟩:=HO.o.recs aq;have e1:(gC (iG c l)).length=l.length:=by rw [og];simp [iG]
   rw [e1];have HS:=ah hS;have vZ:=ah lJ
   clear hS lJ HO e1;go_wp2
   exact bodyPost_ret (v:= .tuple #[.slice pa l.length pc,.slice a l.length cap]) (by simp [results,results64,go_sem]) rfl ⟨pa,pc,a,cap,rfl,HS.o,HI.o.ext hE,HX.o.trans hE,vZ.o.mono HX.o.size,jq.o⟩
inductive jr (E:List (Nat×Nat)):Nat->Nat->Prop
 |refl (a:Nat):jr E a a
 |FU {a b:Nat}:(a,b)∈E->jr E a b
 |symm {a b:Nat}:jr E a b->jr E b a
 |trans {a b c:Nat}:jr E a b->jr E b c->jr E a c
theorem jr.mono {E F:List (Nat×Nat)} (h: ∀p∈E,p∈F) {a b:Nat} (c:jr E a b):jr F a b:=by
 induction c with
 |refl a=>exact .refl a
 |FU h'=>exact .FU (h _ h')
 |symm _ ih=>exact ih.symm
 |trans _ _ Ve Vf=>exact Ve.trans Vf
theorem jr.label {E:List (Nat×Nat)} {α:Type} (f:Nat->α) (h: ∀p∈E,f p.1=f p.2) {a b:Nat} (c:jr E a b):f a=f b:=by
 induction c with
 |refl a=>rfl
 |FU h'=>exact h _ h'
 |symm _ ih=>exact ih.symm
 |trans _ _ Ve Vf=>exact Ve.trans Vf
def kt (f:Nat->Nat) (b:Nat):Bool:=(List.range b).all λk=>f k !=f b
theorem gP (f:Nat->Nat) (b:Nat):kt f b=true↔ ∀k,k<b->f k≠f b:=by
 unfold kt;rw [List.all_eq_true];constructor
 .intro h k hk;simpa using h k (List.mem_range.2 hk)
 .intro h k hk;simpa using h k (List.mem_range.1 hk)
def cls (f:Nat->Nat) (n:Nat):Nat:=(List.range n).countP (kt f)
theorem LN (f:Nat->Nat):cls f 0=0:=rfl
theorem sA (f:Nat->Nat) (n:Nat):cls f (n+1)=cls f n+if kt f n then 1 else 0:=by
 unfold cls;rw [List.range_succ,List.countP_append,List.countP_singleton]
theorem RL (f:Nat->Nat) (n:Nat):cls f n<=n:=by
 induction n with
 |zero=>exact bY
 |succ n ih=>rw [sA];split<;>omega
def merge (f:Nat->Nat) (x y:Nat) (b:Nat):Nat:=if f b=y then x else f b
theorem Jd (f:Nat->Nat) (x y:Nat) (mG:x≠y) (n:Nat):
 cls (merge f x y) n+(if(∃a,a<n/\f a=x)/\(∃a,a<n/\f a=y)then 1 else 0)=cls f n:=by
 induction n with
 |zero=>simp [LN]
 |succ n ih=>
  rw [sA,sA]
  have hex: ∀z,(∃a,a<n+1/\f a=z)↔((∃a,a<n/\f a=z)\/f n=z):=by
   intro z;constructor
   .rintro ⟨a,ha,e⟩
    by_cases h:a=n
    .exact Or.inr (h▸e)
    .exact Or.inl ⟨a,ae,e⟩
   .rintro (⟨a,ha,e⟩|e)
    .exact ⟨a,ae,e⟩
    .exact ⟨n,ae,e⟩
  by_cases hx:f n=x
  .have hy':f n≠y:=λe=>mG (hx▸e)
   have hm:merge f x y n=x:=by unfold merge;rw [if_neg hy',hx]
   have h1:kt (merge f x y) n=true↔(¬(∃a,a<n/\f a=x))/\ ¬(∃a,a<n/\f a=y):=by
    rw [gP,hm];constructor
    .intro h
     refine ⟨λ⟨a,ha,e⟩=>h a ha ?_,λ⟨a,ha,e⟩=>h a ha ?_⟩
     .unfold merge;split<;>first|rfl|exact e
     .unfold merge;rw [if_pos e]
    .rintro ⟨h1,h2⟩ k hk e
     unfold merge at e;split at e
     .rename_i h;exact h2 ⟨k,hk,h⟩
     .exact h1 ⟨k,hk,e⟩
   have h2:kt f n=true↔ ¬(∃a,a<n/\f a=x):=by
    rw [gP,hx];exact ⟨λh ⟨a,ha,e⟩=>h a ha e,λh k hk e=>h ⟨k,hk,e⟩⟩
   simp only [hex];by_cases p1: ∃a,a<n/\f a=x<;>by_cases p2: ∃a,a<n/\f a=y<;>simp_all<;>omega
  .by_cases hy:f n=y
   .have hm:merge f x y n=x:=by unfold merge;rw [if_pos hy]
    have h1:kt (merge f x y) n=true↔(¬(∃a,a<n/\f a=x))/\ ¬(∃a,a<n/\f a=y):=by
     rw [gP,hm];constructor
     .intro h
      refine ⟨λ⟨a,ha,e⟩=>h a ha ?_,λ⟨a,ha,e⟩=>h a ha ?_⟩
      .unfold merge;split<;>first|rfl|exact e
      .unfold merge;rw [if_pos e]
     .rintro ⟨h1,h2⟩ k hk e
      unfold merge at e;split at e
      .rename_i h;exact h2 ⟨k,hk,h⟩
      .exact h1 ⟨k,hk,e⟩
    have h2:kt f n=true↔ ¬(∃a,a<n/\f a=y):=by
     rw [gP,hy];exact ⟨λh ⟨a,ha,e⟩=>h a ha e,λh k hk e=>h ⟨k,hk,e⟩⟩
    simp only [hex];by_cases p1: ∃a,a<n/\f a=x<;>by_cases p2: ∃a,a<n/\f a=y<;>simp_all<;>omega
   .have hm:merge f x y n=f n:=by unfold merge;rw [if_neg hy]
    have h1:kt (merge f x y) n=true↔kt f n=true:=by
     rw [gP,gP,hm];constructor
     .intro h k hk e
      refine h k hk ?_;unfold merge;rw [if_neg (by rw [e];exact hy)];exact e
     .intro h k hk e
      unfold merge at e;split at e
      .exact hx e.symm
      .exact h k hk e
    simp only [hex];by_cases p1: ∃a,a<n/\f a=x<;>by_cases p2: ∃a,a<n/\f a=y<;>by_cases p3:kt f n=true<;>simp_all<;>omega
def lr (n:Nat) (E:List (Nat×Nat)) (f:Nat->Nat):Prop:= ∀a b,a<n->b<n->(f a=f b↔jr E a b)
theorem lr.nil (n:Nat):lr n [] (λb=>b):=by
 intro a b _ _;constructor
 .rintro rfl;exact .refl _
 .intro h;exact h.label (λb=>b) (λp hp=>absurd hp aG)
theorem jr.Dx {E:List (Nat×Nat)} {x y a b:Nat}:jr (E++ [(x,y)]) a b↔jr E a b\/(jr E a x/\jr E y b)\/(jr E a y/\jr E x b):=by
 constructor
 .intro h
  induction h with
  |refl a=>exact Or.inl (.refl _)
  | @FU a b h=>
    rcases List.mem_append.1 h with h|h
    .exact Or.inl (.FU h)
    .simp only [List.mem_singleton,Prod.mk.injEq]at h
     obtain ⟨rfl,rfl⟩:=h;exact Or.inr (Or.inl ⟨.refl _,.refl _⟩)
  |symm _ ih=>
   rcases ih with h|⟨h1,h2⟩|⟨h1,h2⟩
   .exact Or.inl h.symm
   .exact Or.inr (Or.inr ⟨h2.symm,h1.symm⟩)
   .exact Or.inr (Or.inl ⟨h2.symm,h1.symm⟩)
  |trans _ _ Ve Vf=>
   rcases Ve with h|⟨h1,h2⟩|⟨h1,h2⟩<;>rcases Vf with g|⟨g1,g2⟩|⟨g1,g2⟩
   .exact Or.inl (h.trans g)
   .exact Or.inr (Or.inl ⟨h.trans g1,g2⟩)
   .exact Or.inr (Or.inr ⟨h.trans g1,g2⟩)
   .exact Or.inr (Or.inl ⟨h1,h2.trans g⟩)
   .exact Or.inr (Or.inl ⟨h1,g2⟩)
   .exact Or.inl (h1.trans g2)
   .exact Or.inr (Or.inr ⟨h1,h2.trans g⟩)
   .exact Or.inl (h1.trans g2)
   .exact Or.inr (Or.inr ⟨h1,g2⟩)
 .have hm: ∀{a b},jr E a b->jr (E++ [(x,y)]) a b:=λh=>h.mono (λp hp=>List.mem_append_left _ hp)
  have he:jr (E++ [(x,y)]) x y:= .FU aG;rintro (h|⟨h1,h2⟩|⟨h1,h2⟩)
  .exact hm h
  .exact (hm h1).trans (he.trans (hm h2))
  .exact (hm h1).trans (he.symm.trans (hm h2))
theorem lr.skip {n:Nat} {E:List (Nat×Nat)} {f:Nat->Nat} (h:lr n E f) {x y:Nat} (hx:x<n) (hy:y<n) (e:f x=f y):lr n (E++ [(x,y)]) f:=by
 intro a b ha hb;have hc:=(h x y hx hy).1 e;rw [jr.Dx,h a b ha hb];constructor
 .exact Or.inl
 .rintro (g|⟨g1,g2⟩|⟨g1,g2⟩)
  .exact g
  .exact g1.trans (hc.trans g2)
  .exact g1.trans (hc.symm.trans g2)
theorem lr.join {n:Nat} {E:List (Nat×Nat)} {f:Nat->Nat} (h:lr n E f) {x y:Nat} (hx:x<n) (hy:y<n) (_e:f x≠f y):lr n (E++ [(x,y)]) (merge f (f x) (f y)):=by
 intro a b ha hb;rw [jr.Dx,<-h a b ha hb,<-h a x ha hx,<-h y b hy hb,<-h a y ha hy,<-h x b hx hb];unfold merge;by_cases h1:f a=f y<;>by_cases h2:f b=f y<;>simp [h1,h2]<;>omega
theorem lr.FV {n:Nat} {f:Nat->Nat} {x y:Nat} (hx:x<n) (hy:y<n) (e:f x≠f y):cls (merge f (f x) (f y)) n+1=cls f n:=by
 have:=Jd f (f x) (f y) e n;rw [if_pos ⟨⟨x,hx,rfl⟩,⟨y,hy,rfl⟩⟩]at this;exact this
structure km (n:Nat) (E:List (Nat×Nat)) (f:Nat->Nat):Prop where
 le: ∀b,b<n->f b<=b
 conn: ∀b,b<n->jr E b (f b)
theorem km.tells {n:Nat} {E:List (Nat×Nat)} {f:Nat->Nat} (h:km n E f) (he: ∀p∈E,f p.1=f p.2):lr n E f:=by
 intro a b ha hb;constructor
 .intro e
  have:=h.conn b hb;rw [<-e]at this;exact (h.conn a ha).trans this.symm
 .intro c;exact c.label f he
theorem km.first {n:Nat} {E:List (Nat×Nat)} {f:Nat->Nat} (h:km n E f) (he: ∀p∈E,f p.1=f p.2) (b:Nat) (hb:b<n):(f b==b)=kt f b:=by
 rw [Bool.eq_iff_iff,gP];simp only [beq_iff_eq];constructor
 .intro e k hk hf
  have:=h.le k ae;omega
 .intro hf
  have h1:=h.le b hb;by_cases e:f b=b
  .exact e
  .have h3:f (f b)=f b:=(h.tells he (f b) b ae hb).2 (h.conn b hb).symm
   exact absurd h3 (hf (f b) ae)
def j3 (w:World) (B:Nat) (f:Nat->Nat) (n:Nat):Prop:=aT w B 3 ((List.range n).map λb=>i64 ((f b:Nat):Int))
def g_ (f:Nat->Nat) (k v:Nat) (b:Nat):Nat:=if b=k then v else f b
theorem j3.cell {w:World} {B:Nat} {f:Nat->Nat} {n:Nat} (h:j3 w B f n) (k:Nat) (hk:k<n):w.cell? ⟨B,k,none⟩=some (i64 ((f k:Nat):Int))/\w.frozen? ⟨B,k,none⟩=false:=
 ⟨by rw [aT.cell h k];simp [hk],aT.frozen h k⟩
theorem j3.ext {w w':World} {B:Nat} {f:Nat->Nat} {n:Nat} (h:j3 w B f n) (e:Ext w w'):j3 w' B f n:=aT.ext h e
theorem j3.lt {w:World} {B:Nat} {f:Nat->Nat} {n:Nat} (h:j3 w B f n):B<w.heap.size:=aT.lt h
theorem j3.congr {w:World} {B:Nat} {f g:Nat->Nat} {n:Nat} (h:j3 w B f n) (e: ∀b,b<n->f b=g b):j3 w B g n:=by
 unfold j3 at*
 have:((List.range n).map λb=>i64 ((g b:Nat):Int))=(List.range n).map λb=>i64 ((f b:Nat):Int):=by
  apply List.map_congr_left;intro b hb;rw [e b (List.mem_range.1 hb)]
 rw [this];exact h
theorem j3.set {w:World} {B:Nat} {f:Nat->Nat} {n:Nat} (h:j3 w B f n) (k v:Nat):j3 (w.setCell ⟨B,k,none⟩ (i64 (v:Int))) B (g_ f k v) n:=by
 unfold j3 at*;have h5:=aT.set h k (i64 (v:Int))
 have:((List.range n).map λb=>i64 ((f b:Nat):Int)).set k (i64 (v:Int))=(List.range n).map λb=>i64 ((g_ f k v b:Nat):Int):=by
  apply List.ext_getElem
  .simp
  .intro i h1 h2
   rw [List.getElem_set];simp only [List.getElem_map,List.getElem_range];unfold g_;by_cases hik:k=i
   .subst hik;simp
   .rw [if_neg hik,if_neg (λe=>hik e.symm)]
 rw [this]at h5;exact h5
theorem j3.zero {w:World} {B:Nat} {n:Nat} (h:aT w B 3 (List.replicate n (.int .i64 0))):j3 w B (λb=>if b<0 then b else 0) n:=by
 unfold j3
 have:((List.range n).map λb=>i64 (((if b<0 then b else 0:Nat):Nat):Int))=List.replicate n (.int .i64 0):=by
  apply List.ext_getElem
  .simp
  .intro i h1 h2;simp
 rw [this];exact h
theorem j3.next {w:World} {B n k:Nat} (h:j3 w B (λb=>if b<k then b else 0) n):j3 (w.setCell ⟨B,k,none⟩ (i64 (k:Int))) B (λb=>if b<k+1 then b else 0) n:=
 (h.set k k).congr λb _=>by
   unfold g_;by_cases e:b=k
   .subst e;simp
   .rw [if_neg e]
    show(if b<k then b else 0)=(if b<k+1 then b else 0);by_cases e2:b<k
    .rw [if_pos e2,if_pos ae]
    .rw [if_neg e2,if_neg ae]
theorem j3.full {w:World} {B n:Nat} (h:j3 w B (λb=>if b<n then b else 0) n):j3 w B (λb=>b) n:=h.congr λb hb=>by simp [hb]
def sumTo (f:Nat->Nat):Nat->Nat
 |0=>0
 |n+1=>sumTo f n+f n
theorem sB (f:Nat->Nat) (k v:Nat): ∀n,n<=k->sumTo (g_ f k v) n=sumTo f n
 |0,_=>rfl
 |n+1,h=>by
  have:g_ f k v n=f n:=by unfold g_;rw [if_neg ae]
  simp only [sumTo,sB f k v n ae,this]
theorem sumTo_upd (f:Nat->Nat) (k v:Nat): ∀n,k<n->sumTo (g_ f k v) n+f k=sumTo f n+v
 |0,h=>absurd h (Nat.not_lt_zero _)
 |n+1,h=>by
  by_cases e:k=n
  .subst e
   have:g_ f k v k=v:=by unfold g_;rw [if_pos rfl]
   simp only [sumTo,sB f k v k bY,this];omega
  .have ih:=sumTo_upd f k v n ae
   have:g_ f k v n=f n:=by unfold g_;rw [if_neg (λh=>e h.symm)]
   simp only [sumTo,this];omega
def fh (f:Nat->Nat) (p:Nat×Nat):Nat->Nat:=g_ (g_ f p.1 (min (f p.1) (f p.2))) p.2 (min (f p.1) (f p.2))
theorem Dy {n:Nat} {E:List (Nat×Nat)} {f:Nat->Nat} (h:km n E f) {p:Nat×Nat} (hp:p∈E) (h1:p.1<n) (h2:p.2<n):km n E (fh f p):=by
 have l1:=h.le p.1 h1;have l2:=h.le p.2 h2;have e:jr E p.1 p.2:= .FU hp
 have cm:jr E p.1 (min (f p.1) (f p.2)):=by
  by_cases q:f p.1<=f p.2
  .rw [Nat.min_eq_left q];exact h.conn p.1 h1
  .rw [Nat.min_eq_right ae];exact e.trans (h.conn p.2 h2)
 constructor
 .intro b hb
  have:=h.le b hb;unfold fh g_;by_cases q2:b=p.2
  .rw [if_pos q2];omega
  .rw [if_neg q2]
   by_cases q1:b=p.1
   .rw [if_pos q1];omega
   .rw [if_neg q1];exact this
 .intro b hb
  unfold fh g_;by_cases q2:b=p.2
  .rw [if_pos q2,q2];exact e.symm.trans cm
  .rw [if_neg q2]
   by_cases q1:b=p.1
   .rw [if_pos q1,q1];exact cm
   .rw [if_neg q1];exact h.conn b hb
theorem Je {n:Nat} {f:Nat->Nat} {p:Nat×Nat} (h1:p.1<n) (h2:p.2<n):sumTo (fh f p) n<=sumTo f n/\(f p.1≠f p.2->sumTo (fh f p) n<sumTo f n):=by
 unfold fh;obtain ⟨m,hm⟩: ∃m,m=min (f p.1) (f p.2):=⟨_,rfl⟩;rw [<-hm];have a:=sumTo_upd f p.1 m n h1;have b:=sumTo_upd (g_ f p.1 m) p.2 m n h2;have c:g_ f p.1 m p.2=if p.2=p.1 then m else f p.2:=rfl
 rw [c]at b;by_cases q:p.2=p.1
 .have e:f p.2=f p.1:=by rw [q]
  rw [if_pos q]at b;omega
 .rw [if_neg q]at b
  omega
theorem xy {f:Nat->Nat} {p:Nat×Nat} (h:f p.1=f p.2) (b:Nat):fh f p b=f b:=by
 unfold fh g_;rw [h,Nat.min_self];by_cases q2:b=p.2
 .rw [if_pos q2,q2]
 .rw [if_neg q2]
  by_cases q1:b=p.1
  .rw [if_pos q1,q1,h]
  .rw [if_neg q1]
theorem km.congr {n:Nat} {E:List (Nat×Nat)} {f g:Nat->Nat} (h:km n E f) (e: ∀b,b<n->f b=g b):km n E g:=
 ⟨λb hb=>by rw [<-e b hb];exact h.le b hb,λb hb=>by rw [<-e b hb];exact h.conn b hb⟩
theorem km.start (n:Nat) (E:List (Nat×Nat)):km n E (λb=>b):=⟨λ_ _=>bY,λ_ _=> .refl _⟩
structure uO (n:Nat) (E:List (Nat×Nat)) (f:Nat->Nat) (i:Nat) (g:Nat->Nat) (ag:Bool):Prop where
 least:km n E g
 sum:sumTo g n<=sumTo f n
 yes:ag=true->sumTo g n<sumTo f n
 no:ag=false-> ∀p∈E.take i,g p.1=g p.2
theorem uO.start {n:Nat} {E:List (Nat×Nat)} {f:Nat->Nat} (h:km n E f):uO n E f 0 f false:=⟨h,bY,(λe=>by cases e),(λ_ p hp=>by simp at hp)⟩
theorem uO.step {n:Nat} {E:List (Nat×Nat)} {f g:Nat->Nat} {i:Nat} {ag:Bool} (h:uO n E f i g ag) (hi:i<E.length) (h1:E[i].1<n) (h2:E[i].2<n):
 uO n E f (i+1) (fh g E[i]) (ag||(g E[i].1 !=min (g E[i].1) (g E[i].2))||(g E[i].2 !=min (g E[i].1) (g E[i].2))):=by
 have hs:=Je (f:=g) h1 h2;refine ⟨Dy h.least (List.getElem_mem hi) h1 h2,Nat.le_trans hs.1 h.sum,λe=> ?_,λe=> ?_⟩
 .by_cases q:g E[i].1=g E[i].2
  .rw [q]at e
   simp at e;exact Nat.lt_of_le_of_lt hs.1 (h.yes e)
  .exact Nat.lt_of_lt_of_le (hs.2 q) h.sum
 .simp at e
  obtain ⟨⟨e1,e2⟩,e3⟩:=e;have q:g E[i].1=g E[i].2:=ae;intro p hp;rw [xy q,xy q];rw [List.take_succ_eq_append_getElem hi,List.mem_append]at hp;rcases hp with hp|hp
  .exact h.no e1 p hp
  .rw [List.mem_singleton]at hp;rw [hp];exact q
