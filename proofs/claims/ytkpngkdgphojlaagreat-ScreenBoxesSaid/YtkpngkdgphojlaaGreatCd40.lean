/- Texts of the proof. -/
import Derived.Test.YtkpngkdgphojlaaGreatCd24
import Derived.Test.YtkpngkdgphojlaaGreatCd39
set_option linter.all false
namespace Go.Proofs.YtkpngkdgphojlaaGreat
open Go.Proofs.Tryz
open Go.RowKit
def fc (l:List cA):List (List Value):=l.map cA.cells
theorem zJ (l:List cA) (g:cA):fc (l++ [g])=fc l++ [[.string g.name,.slice g.da g.bP.length g.dc,i64 g.gC]]:=by simp [fc,cA.cells]
theorem gz (l:List cA):(fc l).length=l.length:=by simp [fc]
theorem Jw {V W w5:World} {T R X D:Nat} {a:Option Addr} {c:Nat} {l:List Int} {x0:ai} {hh rc bc dc k:Nat} {rb ba da:Option Addr} {bs:List cA} {dm:List Int} {sh:Int} {v1 z1 z2 z3 z4 z5:Value}
 (h:gT V T R X D a c l [i64 (hh:Int),.slice rb hh rc,.slice ba bs.length bc,z1,z2,z3,z4,z5] x0 74 3 ba bc (fc bs) ((bs.map fun b=>(b.da,b.dc,b.bP))++ [(da,dc,dm)]) [] W) (hd:dm.length=hh)
 (ho:w5.ownsRow D 74 3 v1 (bs.length+1) ((fc bs).flatten++ [.string (aI 98 k),.slice da hh dc,i64 sh])) (he: ∀a0,Ext a0 W→a0.heap.size≤D→Ext a0 w5) (hb: ∀k,k<W.heap.size→some k≠Value.ownBlock (.slice ba bs.length bc)→w5.heap[k]?=W.heap[k]?) (hz:W.heap.size≤w5.heap.size)
 (hv:v1.ownBlock=Value.ownBlock (.slice ba bs.length bc)∨ ∃g,v1.ownBlock=some g∧W.heap.size≤g):
 ∃g2 k2,v1= .slice g2 (bs++ [(⟨aI 98 k,da,dc,dm,sh⟩:cA)]).length k2∧w5.cell? ⟨X,2,none⟩=some (.slice ba bs.length bc)∧w5.frozen? ⟨X,2,none⟩=false∧
  gT V T R X D a c l [i64 (hh:Int),.slice rb hh rc,.slice g2 (bs++ [(⟨aI 98 k,da,dc,dm,sh⟩:cA)]).length k2,z1,z2,z3,z4,z5] x0 74 3 g2 k2 (fc (bs++ [(⟨aI 98 k,da,dc,dm,sh⟩:cA)])) ((bs++ [(⟨aI 98 k,da,dc,dm,sh⟩:cA)]).map fun b=>(b.da,b.dc,b.bP)) [] (w5.setCell ⟨X,2,none⟩ (.slice g2 (bs++ [(⟨aI 98 k,da,dc,dm,sh⟩:cA)]).length k2)):=by
 obtain ⟨g2,k2,Eu,P5,P6⟩:=h.push (r:= [.string (aI 98 k),.slice da hh dc,i64 sh]) (v1:=v1) 2 rfl (by rw [gz];exact ho) he (by rw [gz];exact hb) hz (by rw [gz];exact hv);have hl:(bs++ [(⟨aI 98 k,da,dc,dm,sh⟩:cA)]).length=bs.length+1:=by simp
 have hr:fc (bs++ [(⟨aI 98 k,da,dc,dm,sh⟩:cA)])=fc bs++ [[.string (aI 98 k),.slice da hh dc,i64 sh]]:=by rw [zJ];simp only;rw [hd]
 have hm:(bs++ [(⟨aI 98 k,da,dc,dm,sh⟩:cA)]).map (fun b=>(b.da,b.dc,b.bP))=(bs.map fun b=>(b.da,b.dc,b.bP))++ [(da,dc,dm)]:=by simp
 rw [hl,hr,hm];rw [gz]at Eu P6;exact ⟨g2,k2,Eu,(P5.cw.bJ.cell 2).trans rfl,P5.cw.bJ.frozen 2,P6⟩
theorem Tryz.info_bus:(Tryz.prog.info? 74).map (fun i=>(i.zero,i.size,i.bytes))=some (some (.agg #[.string ByteArray.empty,.slice none 0 0,i64 0]),3,48):=by kernel_rfl
theorem jR.snoc {bs:List cA} {hh:Nat} {b:cA} (h: ∀j (hj:j<bs.length),jR bs[j] j hh) (hb:jR b bs.length hh): ∀j (hj:j<(bs++ [b]).length),jR (bs++ [b])[j] j hh:=by
 intro j hj;rw [List.length_append]at hj;simp only [List.length_cons,List.length_nil]at hj;by_cases q:j<bs.length
 ·rw [List.getElem_append_left q];exact h j q
 ·have e:j=bs.length:=by omega
  subst e;rw [List.getElem_append_right (Nat.le_refl _)];simp only [Nat.sub_self,List.getElem_cons_zero];exact hb
theorem Jx {V W:World} {T R X D:Nat} {a:Option Addr} {c:Nat} {l:List Int} {cs:List Value} {x0:ai} {hh bc:Nat} {ba:Option Addr} {bs:List cA}
 (h:gT V T R X D a c l cs x0 74 3 ba bc (fc bs) (bs.map fun b=>(b.da,b.dc,b.bP)) [] W) (hm: ∀j (hj:j<bs.length),jR bs[j] j hh) (hl:bs.length≤16):
 CW V T R X a c l cs {x0 with ba:=ba,bc:=bc,ak:=bs} W:=by
 obtain ⟨ra,rc,sK,Bb,Ey⟩:=h.own.recs (by decide);simp only [Value.slice.injEq,true_and]at sK;obtain ⟨rfl,rfl⟩:=sK;have qN:=h.lo;refine {h.cw with case':={h.cw.case' with ak:=Bb,bus:=fun b hb=> ?_},bl:={h.cw.bl with ak:=fun p hp=> ?_,bus:=fun b hb p hp=> ?_}}
 ·replace hb:b∈bs:=hb
  obtain ⟨j,hj,rfl⟩:=List.mem_iff_getElem.1 hb;have h1:=hm j hj;refine ⟨by rw [h1.name,kA 98 j (by omega)];decide,(h.si _ (List.mem_map.2 ⟨_,hb,rfl⟩)).1,?_⟩;have:=h1.gC;unfold bp;omega
 ·have:=h.jQ p hp
  show X<p.block∧p.block<W.heap.size;omega
 ·have h2:=(h.si _ (List.mem_map.2 ⟨_,hb,rfl⟩)).2 p hp
  exact ⟨h2.1,h2.2.1⟩
theorem bS.nil' (w:World) (m:Nat):bS w m none 0 []:=⟨Nat.le_refl _,by decide,fun i hi=>absurd hi (Nat.not_lt_zero _)⟩
section
variable{P:Program} (w:World)
theorem eP {o:Oper} {a:Act} {Q:Exit→Act→World→Prop} {K:Act→World→Prop} (s x:Operand) (t:TypeId)
 (ho:o.op= .call {callee:= .builtin .append,args:= #[s,x],argTypes:= #[t,t]})
 (base:Nat) (e:TypeId) (z:Value) (size bytes:Nat) (ht:P.underlying t=some (.slice e)) (jt:(P.info? e).map (fun i=>(i.zero,i.size,i.bytes))=some (some z,size,bytes)) (hzs:z.cells.size=size) (hsz:0<size)
 (v:Value) (n:Nat) (xs:List Value) (hs:a.eval s=v) (hown:w.ownsRow base e size v n xs)
 (b:Nat) (news:List Value) (hx:a.eval x= .slice (some ⟨b,0,none⟩) 1 1) (hl:news.length=size) (hnews:aJ w b e news) (h1:news.all (·.oneCell')=true)
 (h63:n≤100) (hbytes:bytes≤1000) (hbase:base≤w.heap.size)
 (h: ∀v' w',Hid (w'.ownsRow base e size v' (n+1) (xs++news))→Hid (∀a0,Ext a0 w→a0.heap.size≤base→Ext a0 w')→Hid (∀k,k<w.heap.size→some k≠v.ownBlock→w'.heap[k]?=w.heap[k]?)→Hid (w.heap.size≤w'.heap.size)→Hid (v'.ownBlock=v.ownBlock∨ ∃g,v'.ownBlock=some g∧w.heap.size≤g)→K (a.put o.dst v') w'):Oper.wp P o a w K Q:=by
 obtain ⟨i,hi,hz,hsize,hby⟩:=info_parts jt;have hlt:=hown.lt;have hb:(n+1)*bytes≤140737488355328:=Nat.le_trans (Nat.mul_le_mul (show n+1≤1000 by omega) hbytes) (by decide);have td:n+1≤maxLen:=by unfold maxLen;omega
 have lR: ∀j u,news[j]?=some u→w.cell? ((⟨b,0,none⟩:Addr).add j)=some u:=fun j u hu=>by rw [gM,hnews.cell j];exact hu
 obtain ⟨v',w',hr,h2,h3,h4,h5⟩:=gX (P:=P) w base t o.type e i z size bytes ht hi hz hsize hby hzs hsz v n xs hown ⟨b,0,none⟩ 1 1 news (by rw [hl,Nat.one_mul]) lR (fun u hu=>List.all_eq_true.1 h1 u hu) td hb hbase;unfold Oper.wp execOp;simp only [ho,resolve,invoke,builtin,Sem.run_bind,Sem.run_pure,Result.andThen_ok,List.map_toArray,List.map_cons,List.map_nil,hs,hx,hr];refine (h v' w' h2 (fun a0 ha hb0=>⟨ha.below.trans ⟨h3.os,h3.tape,h3.output,h3.size,fun k hk=>h3.block k (by have:=ha.size;omega) (fun e'=>by have:=hlt k e'.symm;omega)⟩,Nat.le_trans ha.drawn h4⟩) h3.block h3.size h5)
end
theorem Tryz.info_line:(Tryz.prog.info? 78).map (fun i=>(i.zero,i.size,i.bytes))=some (some (.agg kB.cells.toArray),12,120):=by kernel_rfl
theorem fH.snoc {l:List aP} {nb hh fr tb:Nat} {x:aP} (h:fH l nb hh) (hf:fr<nb) (ht:tb<nb) (hn:fr≠tb) (hx:o6 x l.length fr tb hh):fH (l++ [x]) nb hh:=by
 intro j hj;rw [List.length_append]at hj;simp only [List.length_cons,List.length_nil]at hj;by_cases q:j<l.length
 ·rw [List.getElem_append_left q];exact h j q
 ·have e:j=l.length:=by omega
  subst e;rw [List.getElem_append_right (Nat.le_refl _)];simp only [Nat.sub_self,List.getElem_cons_zero];exact ⟨fr,tb,hf,ht,hn,hx⟩
theorem o6.lQ {x:aP} {i fr tb:Nat} {h:Int} (m:o6 x i fr tb h) (hi:i<16) (hf:fr<100) (ht:tb<100):x.name.size≤maxLen∧gl [x.cU,x.j5,x.rn,x.rd,x.se,x.vW,x.tj,x.yA,x.cY,x.jS]:=by
 have a1:=m.r;have a2:=m.s0;have a3:=m.s1;have a4:=m.cY;have a5:=m.jS
 refine ⟨by rw [m.name,kA 108 i hi];decide,?_⟩;intro z hz;simp only [List.mem_cons,List.not_mem_nil,or_false]at hz;rcases hz with rfl|rfl|rfl|rfl|rfl|rfl|rfl|rfl|rfl|rfl<;>(try rw [m.cU])<;>(try rw [m.j5])<;>unfold bp<;>omega
theorem gT.addLine {V W W':World} {T R X D:Nat} {a:Option Addr} {c:Nat} {l:List Int} {cs:List Value} {x0:ai} {e:TypeId} {m:Nat} {ga:Option Addr} {gc:Nat} {rows:List (List Value)} {si:List (Option Addr×Nat×List Int)} {sr:List (Option Addr×Nat×Nat×List (List Value))}
 (h:gT V T R X D a c l cs x0 e m ga gc rows si sr W) {b:Option Addr} {k:Nat} {z:List Int} (hT:aY W' T a c l) (hx:ar T W W') (hi:aD W' b k z) (hf:Fr W.heap.size b) (hb:z= []→b=none):gT V T R X D a c l cs x0 e m ga gc rows (si++ [(b,k,z)]) sr W':=
 h.Be hT hx hi hf fun p hp=>by
  cases z with
  |nil=>rw [hb rfl]at hp;cases hp
  |cons u z=>
   obtain ⟨b3,o3,h4,h5⟩:=hi.cell 0 (by simp);rw [hp]at h4;cases h4
   exact bm h5
def jN (ls:List aP):List (Option Addr×Nat×List Int):=ls.map fun x=>(x.aa,x.ac,x.away)
theorem yi {V W w5:World} {T R X D:Nat} {a:Option Addr} {c:Nat} {l:List Int} {x0:ai} {ga:Option Addr} {gc:Nat} {ls:List aP} {x:aP} {v1:Value} {z0 z1 z2 z4 z5 z6 z7:Value}
 (h:gT V T R X D a c l [z0,z1,z2,.slice ga ls.length gc,z4,z5,z6,z7] x0 78 12 ga gc (ls.map aP.cells) (jN ls++ [(x.aa,x.ac,x.away)]) [] W)
 (ho:w5.ownsRow D 78 12 v1 (ls.length+1) ((ls.map aP.cells).flatten++x.cells)) (he: ∀a0,Ext a0 W→a0.heap.size≤D→Ext a0 w5) (hb: ∀k,k<W.heap.size→some k≠Value.ownBlock (.slice ga ls.length gc)→w5.heap[k]?=W.heap[k]?) (hz:W.heap.size≤w5.heap.size)
 (hv:v1.ownBlock=Value.ownBlock (.slice ga ls.length gc)∨ ∃g,v1.ownBlock=some g∧W.heap.size≤g):
 ∃g2 k2,v1= .slice g2 (ls++ [x]).length k2∧w5.cell? ⟨X,3,none⟩=some (.slice ga ls.length gc)∧w5.cell? ⟨X,0,none⟩=some z0∧w5.frozen? ⟨X,3,none⟩=false∧
  gT V T R X D a c l [z0,z1,z2,.slice g2 (ls++ [x]).length k2,z4,z5,z6,z7] x0 78 12 g2 k2 ((ls++ [x]).map aP.cells) (jN (ls++ [x])) [] (w5.setCell ⟨X,3,none⟩ (.slice g2 (ls++ [x]).length k2)):=by
 have hl0:(ls.map aP.cells).length=ls.length:=by simp
 obtain ⟨g2,k2,Eu,P5,P6⟩:=h.push (r:=x.cells) (v1:=v1) 3 rfl (by rw [hl0];exact ho) he (by rw [hl0];exact hb) hz (by rw [hl0];exact hv);have hl:(ls++ [x]).length=ls.length+1:=by simp
 have hm:(ls++ [x]).map aP.cells=ls.map aP.cells++ [x.cells]:=by simp
 have hs:jN (ls++ [x])=jN ls++ [(x.aa,x.ac,x.away)]:=by simp [jN]
 rw [hl,hm,hs];rw [hl0]at Eu P6;exact ⟨g2,k2,Eu,P5.cw.bJ.cell 3,P5.cw.bJ.cell 0,P5.cw.bJ.frozen 3,P6⟩
theorem Tryz.info_unit:(Tryz.prog.info? 67).map (fun i=>(i.zero,i.size,i.bytes))=some (some (.agg nA.cells.toArray),22,216):=by kernel_rfl
theorem js.snoc {l:List aF} {nb hh bu:Nat} {x:aF} (h:js l nb hh) (hb:bu<nb) (hx:rF x l.length bu hh):js (l++ [x]) nb hh:=by
 intro j hj;rw [List.length_append]at hj;simp only [List.length_cons,List.length_nil]at hj;by_cases q:j<l.length
 ·rw [List.getElem_append_left q];exact h j q
 ·have e:j=l.length:=by omega
  subst e;rw [List.getElem_append_right (Nat.le_refl _)];simp only [Nat.sub_self,List.getElem_cons_zero];exact ⟨bu,hb,hx⟩
theorem rF.lQ {x:aF} {i bu hh:Nat} (m:rF x i bu (hh:Int)) (hi:i<16) (hf:bu<100):x.name.size≤maxLen∧(∀s∈x.aM,gl [s.width,s.aX])∧gl [x.bus,x.min,x.max,x.eu,x.ez,x.cD,x.bW,x.cE,x.eE,x.cF,x.startTime,x.dr,x.cG,x.cJ,x.aV,x.bg,x.state,x.hours,x.output]:=by
 have hs:=mC x.aM m.GU;have a1:=m.min;have a2:=m.K4;have a3:=m.max;have a4:=m.eu;have a5:=m.ez;have a6:=m.cD;have a7:=m.bW;have a8:=m.cE
 have b1:=m.eE;have b2:=m.cF;have b3:=m.startTime;have b4:=m.dr;have b5:=m.cG;have b6:=m.cJ;have b7:=m.aV;have b8:=m.bg
 have d1:=m.state;have d2:=m.hours;have d0:=m.bus
 have d3:x.min≤x.output∧x.output≤x.max∨x.output=0:=by
  by_cases q:x.state=2
  ·exact .inl (m.output.1 q)
  ·exact .inr (m.output.2 q)
 refine ⟨by rw [m.name,kA 117 i hi];decide,fun g hg=> ?_,?_⟩
 ·have:=m.GU g hg
  intro z hz;simp only [List.mem_cons,List.not_mem_nil,or_false]at hz;rcases hz with rfl|rfl<;>unfold bp<;>omega
 ·intro z hz
  simp only [List.mem_cons,List.not_mem_nil,or_false]at hz;rcases hz with rfl|rfl|rfl|rfl|rfl|rfl|rfl|rfl|rfl|rfl|rfl|rfl|rfl|rfl|rfl|rfl|rfl|rfl|rfl<;>unfold bp<;>omega
theorem gT.LP {V W W':World} {T R X D:Nat} {a:Option Addr} {c:Nat} {l:List Int} {cs:List Value} {x0:ai} {e:TypeId} {m:Nat} {ga:Option Addr} {gc:Nat} {rows:List (List Value)} {si:List (Option Addr×Nat×List Int)} {sr:List (Option Addr×Nat×Nat×List (List Value))}
 (h:gT V T R X D a c l cs x0 e m ga gc rows si sr W) {b b2:Option Addr} {k k2 n:Nat} {z:List Int} {z2:List (List Value)} (hT:aY W' T a c l) (hx:ar T W W') (hi:aD W' b k z) (hf:Fr W.heap.size b) (hb:z= []→b=none)
 (Le:bS W' n b2 k2 z2) (hf2:Fr W.heap.size b2) (hb2: ∀p,b2=some p→p.block<W'.heap.size):gT V T R X D a c l cs x0 e m ga gc rows (si++ [(b,k,z)]) (sr++ [(b2,k2,n,z2)]) W':=by
 have A:=h.addLine hT hx hi hf hb;have B:=h.Xi hT hx Le hf2 hb2;exact ⟨A.cw,A.own,A.si,B.sr,A.old,A.size,A.lo⟩
theorem LQ {w:World} {n:Nat} {b:Option Addr} {k:Nat} {z:List (List Value)} (h:bS w n b k z) (hz:0<z.length) (hn: ∀r∈z,0<r.length): ∀p,b=some p→p.block<w.heap.size:=by
 intro p hp;obtain ⟨b3,o3,h4,h5⟩:=h.cell 0 hz;rw [hp]at h4;cases h4
 have h6:=bm (h5 0 (hn _ (List.getElem_mem hz)));exact h6
def mD (us:List aF):List (Option Addr×Nat×List Int):=us.map fun x=>(x.aa,x.ac,x.away)
def mE (us:List aF):List (Option Addr×Nat×Nat×List (List Value)):=us.map fun x=>(x.sa,x.sc,2,x.aM.map dp.cells)
theorem Gl {V W w5:World} {T R X D:Nat} {a:Option Addr} {c:Nat} {l:List Int} {x0:ai} {ga:Option Addr} {gc:Nat} {us:List aF} {x:aF} {v1:Value} {z0 z1 z2 z3 z5 z6 z7:Value}
 (h:gT V T R X D a c l [z0,z1,z2,z3,.slice ga us.length gc,z5,z6,z7] x0 67 22 ga gc (us.map aF.cells) (mD us++ [(x.aa,x.ac,x.away)]) (mE us++ [(x.sa,x.sc,2,x.aM.map dp.cells)]) W)
 (ho:w5.ownsRow D 67 22 v1 (us.length+1) ((us.map aF.cells).flatten++x.cells)) (he: ∀a0,Ext a0 W→a0.heap.size≤D→Ext a0 w5) (hb: ∀k,k<W.heap.size→some k≠Value.ownBlock (.slice ga us.length gc)→w5.heap[k]?=W.heap[k]?) (hz:W.heap.size≤w5.heap.size)
 (hv:v1.ownBlock=Value.ownBlock (.slice ga us.length gc)∨ ∃g,v1.ownBlock=some g∧W.heap.size≤g):
 ∃g2 k2,v1= .slice g2 (us++ [x]).length k2∧w5.cell? ⟨X,4,none⟩=some (.slice ga us.length gc)∧w5.cell? ⟨X,0,none⟩=some z0∧w5.frozen? ⟨X,4,none⟩=false∧
  gT V T R X D a c l [z0,z1,z2,z3,.slice g2 (us++ [x]).length k2,z5,z6,z7] x0 67 22 g2 k2 ((us++ [x]).map aF.cells) (mD (us++ [x])) (mE (us++ [x])) (w5.setCell ⟨X,4,none⟩ (.slice g2 (us++ [x]).length k2)):=by
 have hl0:(us.map aF.cells).length=us.length:=by simp
 obtain ⟨g2,k2,Eu,P5,P6⟩:=h.push (r:=x.cells) (v1:=v1) 4 rfl (by rw [hl0];exact ho) he (by rw [hl0];exact hb) hz (by rw [hl0];exact hv);have hl:(us++ [x]).length=us.length+1:=by simp
 have hm:(us++ [x]).map aF.cells=us.map aF.cells++ [x.cells]:=by simp
 have hs:mD (us++ [x])=mD us++ [(x.aa,x.ac,x.away)]:=by simp [mD]
 have hr:mE (us++ [x])=mE us++ [(x.sa,x.sc,2,x.aM.map dp.cells)]:=by simp [mE]
 rw [hl,hm,hs,hr];rw [hl0]at Eu P6;exact ⟨g2,k2,Eu,P5.cw.bJ.cell 4,P5.cw.bJ.cell 0,P5.cw.bJ.frozen 4,P6⟩
theorem O0 {fr yn nb tb:Nat} (h:fr<nb) (hy:yn+1<nb) (e:(fr+1+yn) % nb=tb):tb<nb∧fr≠tb:=by
 have h1:tb<nb:=by rw [←e];exact Nat.mod_lt _ (by omega)
 refine ⟨h1,?_⟩;by_cases q:fr+1+yn<nb
 ·rw [Nat.mod_eq_of_lt q]at e;omega
 ·rw [Nat.mod_eq_sub_mod (by omega),Nat.mod_eq_of_lt (by omega)]at e;omega
def zK:bj:=⟨{data:= #[]},0,0,0,0,0,0,0,0⟩
def O2:dS:=⟨{data:= #[]},0,none,0,[],none,0,[],none,0,[]⟩
theorem Tryz.info_store:(Tryz.prog.info? 82).map (fun i=>(i.zero,i.size,i.bytes))=some (some (.agg zK.cells.toArray),9,80):=by kernel_rfl
theorem Tryz.info_tie:(Tryz.prog.info? 84).map (fun i=>(i.zero,i.size,i.bytes))=some (some (.agg O2.cells.toArray),5,96):=by kernel_rfl
theorem mB.lQ {x:bj} {nb:Nat} (m:mB x nb) (hn:nb≤100):x.name.size≤maxLen∧gl [x.bus,x.capacity,x.initial,x.final,x.dg,x.discharge,x.en,x.ed]:=by
 have a1:=m.bus;have a2:=m.capacity;have a3:=m.initial;have a4:=m.final;have a5:=m.dg;have a6:=m.discharge;have a7:=m.V9
 refine ⟨by rw [m.name];decide,?_⟩;intro z hz;simp only [List.mem_cons,List.not_mem_nil,or_false]at hz;rcases hz with rfl|rfl|rfl|rfl|rfl|rfl|rfl|rfl<;>unfold bp<;>omega
theorem int_lt {w:World} {b:Option Addr} {k:Nat} {z:List Int} (h:aD w b k z) (hz:0<z.length): ∀p,b=some p→p.block<w.heap.size:=by
 intro p hp;obtain ⟨b3,o3,h4,h5⟩:=h.cell 0 hz;rw [hp]at h4;cases h4
 exact bm h5
theorem DT {V W w5:World} {T R X D:Nat} {a:Option Addr} {c:Nat} {l:List Int} {x0:ai} {x:bj} {v1:Value} {z0 z1 z2 z3 z4 z6 z7:Value}
 (h:gT V T R X D a c l [z0,z1,z2,z3,z4,.slice none 0 0,z6,z7] x0 82 9 none 0 [] [] [] W) (hx:x.name.size≤maxLen∧gl [x.bus,x.capacity,x.initial,x.final,x.dg,x.discharge,x.en,x.ed])
 (ho:w5.ownsRow D 82 9 v1 1 x.cells) (he: ∀a0,Ext a0 W→a0.heap.size≤D→Ext a0 w5) (hb: ∀k,k<W.heap.size→some k≠Value.ownBlock (.slice none 0 0)→w5.heap[k]?=W.heap[k]?) (hz:W.heap.size≤w5.heap.size)
 (hv:v1.ownBlock=Value.ownBlock (.slice none 0 0)∨ ∃g,v1.ownBlock=some g∧W.heap.size≤g):
 ∃g2 k2,v1= .slice g2 1 k2∧w5.cell? ⟨X,5,none⟩=some (.slice none 0 0)∧w5.frozen? ⟨X,5,none⟩=false∧
  CW V T R X a c l [z0,z1,z2,z3,z4,.slice g2 1 k2,z6,z7] {x0 with sa:=g2,sc:=k2,stores:= [x]} (w5.setCell ⟨X,5,none⟩ (.slice g2 1 k2)):=by
 obtain ⟨g2,k2,Eu,P5,P6⟩:=h.push (r:=x.cells) (v1:=v1) 5 rfl ho he hb hz hv;refine ⟨g2,k2,Eu,P5.cw.bJ.cell 5,P5.cw.bJ.frozen 5,?_⟩;have P7:gT V T R X D a c l [z0,z1,z2,z3,z4,.slice g2 1 k2,z6,z7] x0 82 9 g2 k2 [x.cells] [] [] (w5.setCell ⟨X,5,none⟩ (.slice g2 1 k2)):=P6;obtain ⟨ra,rc,sK,Bb,Ey⟩:=P7.own.recs (by decide);simp only [Value.slice.injEq,true_and]at sK;obtain ⟨rfl,rfl⟩:=sK;have qN:=P7.lo;refine {P7.cw with case':={P7.cw.case' with stores:=Bb,store:=fun b hb=> ?_},bl:={P7.cw.bl with stores:=fun p hp=> ?_}}
 ·rw [List.mem_singleton]at hb;subst hb;exact hx
 ·have:=P7.jQ p hp
  show X<p.block∧p.block<(w5.setCell ⟨X,5,none⟩ (.slice g2 1 k2)).heap.size;omega
theorem Jy {V W w5:World} {T R X D:Nat} {a:Option Addr} {c:Nat} {l:List Int} {x0:ai} {x:dS} {v1:Value} {z0 z1 z2 z3 z4 z5 z7:Value}
 (h:gT V T R X D a c l [z0,z1,z2,z3,z4,z5,.slice none 0 0,z7] x0 84 5 none 0 [] [(x.ia,x.ic,x.imp),(x.ea,x.ec,x.exp),(x.pa,x.pc,x.aX)] [] W) (hx:x.name.size≤maxLen∧bp x.bus)
 (ho:w5.ownsRow D 84 5 v1 1 x.cells) (he: ∀a0,Ext a0 W→a0.heap.size≤D→Ext a0 w5) (hb: ∀k,k<W.heap.size→some k≠Value.ownBlock (.slice none 0 0)→w5.heap[k]?=W.heap[k]?) (hz:W.heap.size≤w5.heap.size)
 (hv:v1.ownBlock=Value.ownBlock (.slice none 0 0)∨ ∃g,v1.ownBlock=some g∧W.heap.size≤g):
 ∃g2 k2,v1= .slice g2 1 k2∧w5.cell? ⟨X,6,none⟩=some (.slice none 0 0)∧w5.cell? ⟨X,0,none⟩=some z0∧w5.frozen? ⟨X,6,none⟩=false∧
  CW V T R X a c l [z0,z1,z2,z3,z4,z5,.slice g2 1 k2,z7] {x0 with ta:=g2,tc:=k2,aL:= [x]} (w5.setCell ⟨X,6,none⟩ (.slice g2 1 k2)):=by
 obtain ⟨g2,k2,Eu,P5,P6⟩:=h.push (r:=x.cells) (v1:=v1) 6 rfl ho he hb hz hv;refine ⟨g2,k2,Eu,P5.cw.bJ.cell 6,P5.cw.bJ.cell 0,P5.cw.bJ.frozen 6,?_⟩;have P7:gT V T R X D a c l [z0,z1,z2,z3,z4,z5,.slice g2 1 k2,z7] x0 84 5 g2 k2 [x.cells] [(x.ia,x.ic,x.imp),(x.ea,x.ec,x.exp),(x.pa,x.pc,x.aX)] [] (w5.setCell ⟨X,6,none⟩ (.slice g2 1 k2)):=P6;obtain ⟨ra,rc,sK,Bb,Ey⟩:=P7.own.recs (by decide);simp only [Value.slice.injEq,true_and]at sK;obtain ⟨rfl,rfl⟩:=sK;have qN:=P7.lo;have s1:=P7.si (x.ia,x.ic,x.imp) (by simp);have s2:=P7.si (x.ea,x.ec,x.exp) (by simp);have s3:=P7.si (x.pa,x.pc,x.aX) (by simp);refine {P7.cw with case':={P7.cw.case' with aL:=Bb,tie:=fun b hb=> ?_},bl:={P7.cw.bl with aL:=fun p hp=> ?_,tie:=fun b hb=>⟨fun p hp=> ?_,fun p hp=> ?_,fun p hp=> ?_⟩}}
 ·rw [List.mem_singleton]at hb;subst hb;exact ⟨hx.1,s1.1,s2.1,s3.1,hx.2⟩
 ·have:=P7.jQ p hp
  show X<p.block∧p.block<(w5.setCell ⟨X,6,none⟩ (.slice g2 1 k2)).heap.size;omega
 ·rw [List.mem_singleton]at hb;subst hb;have h2:=s1.2 p hp;exact ⟨h2.1,h2.2.1⟩
 ·rw [List.mem_singleton]at hb;subst hb;have h2:=s2.2 p hp;exact ⟨h2.1,h2.2.1⟩
 ·rw [List.mem_singleton]at hb;subst hb;have h2:=s3.2 p hp;exact ⟨h2.1,h2.2.1⟩
section
variable{P:Program} (w:World)
theorem kp {o:Oper} {a:Act} {Q:Exit→Act→World→Prop} {K:Act→World→Prop} (s x:Operand) (t:TypeId)
 (ho:o.op= .call {callee:= .builtin .append,args:= #[s,x],argTypes:= #[t,t]})
 (base:Nat) (e:TypeId) (z:Value) (size bytes:Nat) (ht:P.underlying t=some (.slice e)) (jt:(P.info? e).map (fun i=>(i.zero,i.size,i.bytes))=some (some z,size,bytes)) (hzs:z.cells.size=size) (hsz:0<size)
 (v:Value) (n:Nat) (xs:List Value) (hs:a.eval s=v) (hown:w.ownsRow base e size v n xs)
 (xa:Option Addr) (m c:Nat) (news:List Value) (hx:a.eval x= .slice xa m c) (hl:news.length=m*size) (hnews: ∀ad,xa=some ad→ ∀j u,news[j]?=some u→w.cell? (ad.add j)=some u) (h1: ∀u∈news,u.oneCell'=true)
 (hnil:xa=none→m=0∧c=0)
 (h63:n+m≤1000) (hbytes:bytes≤1000) (hbase:base≤w.heap.size)
 (h: ∀v' w',Hid (w'.ownsRow base e size v' (n+m) (xs++news))→Hid (∀a0,Ext a0 w→a0.heap.size≤base→Ext a0 w')→Hid (∀k,k<w.heap.size→some k≠v.ownBlock→w'.heap[k]?=w.heap[k]?)→Hid (w.heap.size≤w'.heap.size)→Hid (v'.ownBlock=v.ownBlock∨ ∃g,v'.ownBlock=some g∧w.heap.size≤g)→K (a.put o.dst v') w'):Oper.wp P o a w K Q:=by
 obtain ⟨i,hi,hz,hsize,hby⟩:=info_parts jt;have hlt:=hown.lt;have hb:(n+m)*bytes≤140737488355328:=Nat.le_trans (Nat.mul_le_mul h63 hbytes) (by decide);have td:n+m≤maxLen:=by unfold maxLen;omega
 cases xa with
 |none=>
  obtain ⟨rfl,rfl⟩:=hnil rfl;have hn:news= []:=List.eq_nil_of_length_eq_zero (by simpa using hl);subst hn;have hrun:=run_append_owned_none (P:=P) (w:=w) base t o.type e i size ht hi v n xs hown;unfold Oper.wp;simp [execOp,ho,resolve,invoke,builtin,hs,hx,hrun,Result.andThen];exact h v w (ae (by simpa using hown)) (fun _ h _=>h) (fun _ _ _=>rfl) (Nat.le_refl _) (.inl rfl)
 |some ad=>
  obtain ⟨v',w',hr,h2,h3,h4,h5⟩:=gX (P:=P) w base t o.type e i z size bytes ht hi hz hsize hby hzs hsz v n xs hown ad m c news hl (hnews ad rfl) h1 td hb hbase;unfold Oper.wp execOp;simp only [ho,resolve,invoke,builtin,Sem.run_bind,Sem.run_pure,Result.andThen_ok,List.map_toArray,List.map_cons,List.map_nil,hs,hx,hr];refine (h v' w' h2 (fun a0 ha hb0=>⟨ha.below.trans ⟨h3.os,h3.tape,h3.output,h3.size,fun k hk=>h3.block k (by have:=ha.size;omega) (fun e'=>by have:=hlt k e'.symm;omega)⟩,Nat.le_trans ha.drawn h4⟩) h3.block h3.size h5)
end
theorem ownsRow_lit (w:World) (e:TypeId) (m:Nat):(w.alloc (.cells #[] e)).ownsRow w.heap.size e m (.slice (some ⟨w.heap.size,0,none⟩) 0 0) 0 []:=
 ⟨by simp,.inr ⟨w.heap.size,0,#[],rfl,Nat.le_refl _,by unfold World.alloc;simp,Nat.le_refl _,Nat.zero_le _,by simp,by simp⟩⟩
theorem Tryz.info_outage:(Tryz.prog.info? 87).map (fun i=>(i.zero,i.size,i.bytes))=some (some (.agg qd.cells.toArray),4,72):=by kernel_rfl
theorem pn.snoc {l:List bB} {nl nu:Nat} {x:bB} (h:pn l nl nu) (hx:xQ x l.length nl nu):pn (l++ [x]) nl nu:=by
 intro j hj;rw [List.length_append]at hj;simp only [List.length_cons,List.length_nil]at hj;by_cases q:j<l.length
 ·rw [List.getElem_append_left q];exact h j q
 ·have e:j=l.length:=by omega
  subst e;rw [List.getElem_append_right (Nat.le_refl _)];simp only [Nat.sub_self,List.getElem_cons_zero];exact hx
theorem xQ.lQ {x:bB} {i nl nu:Nat} (m:xQ x i nl nu) (hi:i<16) (hn:nu<1000):x.name.size≤maxLen∧ ∀m∈x.moves,gl [m.unit,m.up,m.down]:=by
 refine ⟨by rw [m.name,kA 111 i hi];decide,fun g hg=> ?_⟩;have:=m.moves.move g hg;intro z hz;simp only [List.mem_cons,List.not_mem_nil,or_false]at hz;rcases hz with rfl|rfl|rfl<;>unfold bp<;>omega
theorem bS.flat {w:World} {m:Nat} {a:Option Addr} {c:Nat} {rows:List (List Value)} (h:bS w m a c rows) (hm:0<m) (hl: ∀r∈rows,r.length=m): ∀ad,a=some ad→ ∀j u,rows.flatten[j]?=some u→w.cell? (ad.add j)=some u:=by
 intro ad ha j u hu;have hj:j<rows.flatten.length:=(List.getElem?_eq_some_iff.1 hu).1;rw [iC rows hl]at hj;have hi:j/m<rows.length:=Nat.div_lt_of_lt_mul (by rw [Nat.mul_comm];exact hj);obtain ⟨b,o,h1,h2⟩:=h.cell (j/m) hi;rw [ha]at h1;cases h1
 have hr:(rows[j/m]).length=m:=hl _ (List.getElem_mem hi);have hjm:j % m<(rows[j/m]).length:=by rw [hr];exact Nat.mod_lt _ hm
 have h3:=h2 (j % m) hjm;have h4:=uB rows hl (j/m) (j % m) hi (Nat.mod_lt _ hm);have h5:j/m*m+j % m=j:=by rw [Nat.mul_comm];exact Nat.div_add_mod j m
 rw [h5,hu,List.getElem?_eq_getElem hjm]at h4;have h6:(Addr.add ⟨b,o,none⟩ j)=⟨b,o+j,none⟩:=by unfold Addr.add;split<;>simp_all
 rw [h6,Option.some.inj h4,←h3,Nat.add_assoc,h5]
def Cb (os:List bB):List (Option Addr×Nat×List Int):=os.map fun x=>(x.la,x.lc,x.lines)
def Cc (os:List bB):List (Option Addr×Nat×Nat×List (List Value)):=os.map fun x=>(x.ma,x.mc,3,x.moves.map bE.cells)
theorem Jz {V W:World} {T R X D:Nat} {a:Option Addr} {c:Nat} {l:List Int} {cs:List Value} {x0:ai} {ga:Option Addr} {gc:Nat} {xs:List bB}
 (h:gT V T R X D a c l cs x0 87 4 ga gc (xs.map bB.cells) (Cb xs) (Cc xs) W) (hm: ∀x∈xs,x.name.size≤maxLen∧ ∀m∈x.moves,gl [m.unit,m.up,m.down]):
 aS W {x0 with oa:=ga,oc:=gc,outs:=xs}∧dN (fun b=>X<b∧b<W.heap.size) {x0 with oa:=ga,oc:=gc,outs:=xs}:=by
 obtain ⟨ra,rc,sK,Bb,Ey⟩:=h.own.recs (by decide);simp only [Value.slice.injEq,true_and]at sK;obtain ⟨rfl,rfl⟩:=sK;have qN:=h.lo;have hs:=fun b (hb:b∈xs)=>h.si (b.la,b.lc,b.lines) (List.mem_map.2 ⟨b,hb,rfl⟩);have hr:=fun b (hb:b∈xs)=>h.sr (b.ma,b.mc,3,b.moves.map bE.cells) (List.mem_map.2 ⟨b,hb,rfl⟩);refine ⟨{h.cw.case' with outs:=Bb,o:=fun b hb=>⟨(hm b hb).1,(hs b hb).1,(hr b hb).1,(hm b hb).2⟩},{h.cw.bl with outs:=fun p hp=> ?_,o:=fun b hb=>⟨fun p hp=> ?_,fun p hp=> ?_⟩}⟩
 ·have:=h.jQ p hp
  show X<p.block∧p.block<W.heap.size;omega
 ·have h2:=(hs b hb).2 p hp;exact ⟨h2.1,h2.2.1⟩
 ·have h2:=(hr b hb).2 p hp;exact ⟨h2.1,h2.2.1⟩
theorem CW.reset {V W W':World} {T R X:Nat} {a:Option Addr} {c:Nat} {l:List Int} {cs cs':List Value} {x x':ai} (h:CW V T R X a c l cs x W) (hA:aJ W' X 32 cs') (hx:ar X W W') (hc:aS W x') (hb:dN (fun b=>X<b∧b<W.heap.size) x'):CW V T R X a c l cs' x' W':=by
 have hp:=h.pos;have hs:=hx.size;exact ⟨h.tape.but hx (by omega),hA,h.res.but hx (by omega),hx.ext h.ext (by omega),hc.but hx (hb.mono fun b hb=>by omega),hb.mono fun b hb=>by omega,h.pos⟩
theorem gT.Gm {V W w5:World} {T R X D:Nat} {a:Option Addr} {c:Nat} {l:List Int} {cs:List Value} {x0:ai} {e:TypeId} {m:Nat} {ga:Option Addr} {gc:Nat} {rows rows':List (List Value)} {si:List (Option Addr×Nat×List Int)} {sr:List (Option Addr×Nat×Nat×List (List Value))}
 (h:gT V T R X D a c l cs x0 e m ga gc rows si sr W) {v1:Value} (ho:aN w5 D e m v1 rows') (he: ∀a0,Ext a0 W→a0.heap.size≤D→Ext a0 w5) (hb: ∀k,k<W.heap.size→some k≠Value.ownBlock (.slice ga rows.length gc)→w5.heap[k]?=W.heap[k]?) (hz:W.heap.size≤w5.heap.size)
 (hv:v1.ownBlock=Value.ownBlock (.slice ga rows.length gc)∨ ∃g,v1.ownBlock=some g∧W.heap.size≤g):
 ∃g2 k2,v1= .slice g2 rows'.length k2∧gT V T R X D a c l cs x0 e m g2 k2 rows' si sr w5:=by
 obtain ⟨g2,k2,rfl⟩:=je ho.own;have qN:=h.lo;have hsz:=h.size
 obtain ⟨K,NR,Kj,hKx⟩:=iB (base:=D) (v:= .slice ga rows.length gc) hsz (fun k q=>(h.own.own.lt k q).1) he hb hz
 have NT:K=W.heap.size∨ ∃q,ga=some q∧q.block=K:=by
  rcases Kj with q|q
  ·exact .inl q
  ·cases ga with
   |none=>cases q
   |some q'=>exact .inr ⟨q',rfl,by have e2:some q'.block=some K:=q;cases e2;rfl⟩
 have Bf: ∀p:Addr,X<p.block∧p.block<W.heap.size∧(∀q,ga=some q→p.block≠q.block)→p.block≠K:=fun p hp=>by
  rcases NT with q|⟨q,q1,q2⟩
  ·omega
  ·have:=hp.2.2 q q1;omega
 have hg2: ∀q,g2=some q→(∃q0,ga=some q0∧q.block=q0.block)∨W.heap.size≤q.block:=fun q hq=>by
  subst hq;rcases hv with e1|⟨g,e1,e2⟩
  ·cases ga with
   |none=>cases e1
   |some q'=>exact .inl ⟨q',rfl,by have e3:some q.block=some q'.block:=e1;exact Option.some.inj e3⟩
  ·have e3:some q.block=some g:=e1
   cases e3;exact .inr e2
 have hs5:=hKx.size;refine ⟨g2,k2,rfl,h.cw.but hKx (by omega) (h.old.mono fun b hb=>by omega),ho,fun s hm=> ?_,fun s hm=> ?_,h.old,by omega,h.lo⟩
 ·obtain ⟨h1,h2⟩:=h.si s hm
  refine ⟨h1.dA hKx (fun p q=>Bf p (h2 p q)),fun p q=> ?_⟩;have h3:=h2 p q;refine ⟨h3.1,by omega,fun q' hq'=> ?_⟩;rcases hg2 q' hq' with⟨q0,h5,h6⟩|h5
  ·have:=h3.2.2 q0 h5;omega
  ·omega
 ·obtain ⟨h1,h2⟩:=h.sr s hm
  refine ⟨h1.but hKx (fun p q=>Bf p (h2 p q)),fun p q=> ?_⟩;have h3:=h2 p q;refine ⟨h3.1,by omega,fun q' hq'=> ?_⟩;rcases hg2 q' hq' with⟨q0,h5,h6⟩|h5
  ·have:=h3.2.2 q0 h5;omega
  ·omega
theorem yj {V W:World} {T R X D:Nat} {a:Option Addr} {c:Nat} {l:List Int} {cs:List Value} {x0:ai} {x:bB} (h:CW V T R X a c l cs x0 W) (hD:D≤W.heap.size) (old:dN (fun b=>b<D) x0) (qN:X<D)
 (hi:aD W x.la x.lc x.lines) (hr:bS W 3 x.ma x.mc (x.moves.map bE.cells)) (hl: ∀p,x.la=some p→X<p.block∧p.block<D) (hm: ∀p,x.ma=some p→X<p.block∧p.block<D):
 gT V T R X D a c l cs x0 87 4 (some ⟨W.heap.size,0,none⟩) 0 [] (Cb (x0.outs++ [x])) (Cc (x0.outs++ [x])) (W.alloc (.cells #[] 87)):=by
 have xa:=(Ext.refl W).alloc (.cells #[] 87);have hsz:(W.alloc (.cells #[] 87)).heap.size=W.heap.size+1:=by simp
 have ho:=ownsRow_lit W 87 4;refine ⟨h.grow xa,⟨⟨ho.1,?_⟩,fun r hr=>by cases hr⟩,fun s hs=> ?_,fun s hs=> ?_,old,by omega,qN⟩
 ·rcases ho.2 with q|⟨g,cap,cur,hv,hb,rest⟩
  ·cases q.1
  ·exact .inr ⟨g,cap,cur,hv,by cases hv;exact hD,rest⟩
 ·obtain ⟨o,ho,rfl⟩:=List.mem_map.1 hs
  rcases List.mem_append.1 ho with q|q
  ·have h1:=(h.case'.o o q).2.1
   refine ⟨h1.ext xa,fun p hp=> ?_⟩;have h2:=(h.bl.o o q).1 p hp;have h3:=(old.o o q).1 p hp
   exact ⟨h2.1,by omega,fun q' e=>by cases e;show p.block≠W.heap.size;omega⟩
  ·rw [List.mem_singleton]at q;subst q
   refine ⟨hi.ext xa,fun p hp=> ?_⟩;have h2:=hl p hp;exact ⟨h2.1,by omega,fun q' e=>by cases e;show p.block≠W.heap.size;omega⟩
 ·obtain ⟨o,ho,rfl⟩:=List.mem_map.1 hs
  rcases List.mem_append.1 ho with q|q
  ·have h1:=(h.case'.o o q).2.2.1
   refine ⟨h1.ext xa,fun p hp=> ?_⟩;have h2:=(h.bl.o o q).2 p hp;have h3:=(old.o o q).2 p hp
   exact ⟨h2.1,by omega,fun q' e=>by cases e;show p.block≠W.heap.size;omega⟩
  ·rw [List.mem_singleton]at q;subst q
   refine ⟨hr.ext xa,fun p hp=> ?_⟩;have h2:=hm p hp;exact ⟨h2.1,by omega,fun q' e=>by cases e;show p.block≠W.heap.size;omega⟩
theorem vE {V W:World} {T R X D K j:Nat} {a:Option Addr} {c:Nat} {l:List Int} {cs:List Value} {x0:ai} {ga:Option Addr} {gc:Nat} {xs:List bB} {v:Value}
 (h:gT V T R X D a c l cs x0 87 4 ga gc (xs.map bB.cells) (Cb xs) (Cc xs) W) (hm: ∀x∈xs,x.name.size≤maxLen∧ ∀m∈x.moves,gl [m.unit,m.up,m.down]) (hX:X<K) (hK:K<D) (old:dN (fun b=>b≠K) x0) (ho: ∀x∈xs,iq (fun b=>b≠K) x.la∧iq (fun b=>b≠K) x.ma):
 CW V T R X a c l cs x0 (W.setCell ⟨K,j,none⟩ v)∧aS (W.setCell ⟨K,j,none⟩ v) {x0 with oa:=ga,oc:=gc,outs:=xs}∧dN (fun b=>X<b∧b<(W.setCell ⟨K,j,none⟩ v).heap.size) {x0 with oa:=ga,oc:=gc,outs:=xs}:=by
 have hd:=Jz h hm;have hx:=((ar.refl K W).gD (o:=j) (v:=v));have hs:=hx.size;refine ⟨h.cw.but hx hX old,hd.1.but hx {old with outs:=fun p hp=> ?_,o:=ho},hd.2.mono fun b hb=>by omega⟩;have:=h.jQ p hp;show p.block≠K;omega
def eL:Nat→Code→Code
 |0,c=>c
 |n+1,.seq _ b=>eL n b
 |_+1,c=>c
noncomputable def Tryz.caseCode:Code:=(Tryz.f10).body.getD .skip
end Go.Proofs.YtkpngkdgphojlaaGreat
