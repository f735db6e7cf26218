/- Texts of the proof. -/
import Derived.Test.YtkpngkdgphojlaaGreatCf14
import Derived.Test.YtkpngkdgphojlaaGreatCf25
import Derived.Test.YtkpngkdgphojlaaGreatCf28
set_option linter.all false
namespace Go.Proofs.YtkpngkdgphojlaaGreat
open Go.Proofs.Tryz
open Go.RowKit
def fN (l:List cN):List (List Value):=l.map cN.cells
theorem zM (l:List cN) (g:cN):fN (l++ [g])=fN l++ [[.string g.name,.slice g.da g.cf.length g.dc,i64 g.lF]]:=by simp [fN,cN.cells]
theorem iz (l:List cN):(fN l).length=l.length:=by simp [fN]
theorem Jz {V W w5:World} {T R X D:Nat} {a:Option Addr} {c:Nat} {l:List Int} {x0:ai} {hh rc bc dc k:Nat} {rb ba da:Option Addr} {bs:List cN} {dm:List Int} {sh:Int} {v1 z1 z2 z3 z4 z5:Value}
 (h:iJ V T R X D a c l [i64 (hh:Int),.slice rb hh rc,.slice ba bs.length bc,z1,z2,z3,z4,z5] x0 74 3 ba bc (fN bs) ((bs.map fun b=>(b.da,b.dc,b.cf))++ [(da,dc,dm)]) [] W) (hd:dm.length=hh)
 (ho:w5.ownsRow D 74 3 v1 (bs.length+1) ((fN bs).flatten++ [.string (aR 98 k),.slice da hh dc,i64 sh])) (he: ∀a0,Ext a0 W→a0.heap.size≤D→Ext a0 w5) (hb: ∀k,k<W.heap.size→some k≠Value.ownBlock (.slice ba bs.length bc)→w5.heap[k]?=W.heap[k]?) (hz:W.heap.size≤w5.heap.size)
 (hv:v1.ownBlock=Value.ownBlock (.slice ba bs.length bc)∨ ∃g,v1.ownBlock=some g∧W.heap.size≤g):
 ∃g2 k2,v1= .slice g2 (bs++ [(⟨aR 98 k,da,dc,dm,sh⟩:cN)]).length k2∧w5.cell? ⟨X,2,none⟩=some (.slice ba bs.length bc)∧w5.frozen? ⟨X,2,none⟩=false∧
  iJ V T R X D a c l [i64 (hh:Int),.slice rb hh rc,.slice g2 (bs++ [(⟨aR 98 k,da,dc,dm,sh⟩:cN)]).length k2,z1,z2,z3,z4,z5] x0 74 3 g2 k2 (fN (bs++ [(⟨aR 98 k,da,dc,dm,sh⟩:cN)])) ((bs++ [(⟨aR 98 k,da,dc,dm,sh⟩:cN)]).map fun b=>(b.da,b.dc,b.cf)) [] (w5.setCell ⟨X,2,none⟩ (.slice g2 (bs++ [(⟨aR 98 k,da,dc,dm,sh⟩:cN)]).length k2)):=by
 obtain ⟨g2,k2,yo,P5,P6⟩:=h.push (r:= [.string (aR 98 k),.slice da hh dc,i64 sh]) (v1:=v1) 2 rfl (by rw [iz];exact ho) he (by rw [iz];exact hb) hz (by rw [iz];exact hv);have hl:(bs++ [(⟨aR 98 k,da,dc,dm,sh⟩:cN)]).length=bs.length+1:=by simp
 have hr:fN (bs++ [(⟨aR 98 k,da,dc,dm,sh⟩:cN)])=fN bs++ [[.string (aR 98 k),.slice da hh dc,i64 sh]]:=by rw [zM];simp only;rw [hd]
 have hm:(bs++ [(⟨aR 98 k,da,dc,dm,sh⟩:cN)]).map (fun b=>(b.da,b.dc,b.cf))=(bs.map fun b=>(b.da,b.dc,b.cf))++ [(da,dc,dm)]:=by simp
 rw [hl,hr,hm];rw [iz]at yo P6;exact ⟨g2,k2,yo,(P5.cw.b_.cell 2).trans rfl,P5.cw.b_.frozen 2,P6⟩
theorem Tryz.info_bus:(Tryz.prog.info? 74).map (fun i=>(i.zero,i.size,i.bytes))=some (some (.agg #[.string ByteArray.empty,.slice none 0 0,i64 0]),3,48):=by kernel_rfl
theorem kH.snoc {bs:List cN} {hh:Nat} {b:cN} (h: ∀j (hj:j<bs.length),kH bs[j] j hh) (hb:kH b bs.length hh): ∀j (hj:j<(bs++ [b]).length),kH (bs++ [b])[j] j hh:=by
 intro j hj;rw [List.length_append]at hj;simp only [List.length_cons,List.length_nil]at hj;by_cases q:j<bs.length
 ·rw [List.getElem_append_left q];exact h j q
 ·have e:j=bs.length:=by omega
  subst e;rw [List.getElem_append_right (Nat.le_refl _)];simp only [Nat.sub_self,List.getElem_cons_zero];exact hb
theorem JA {V W:World} {T R X D:Nat} {a:Option Addr} {c:Nat} {l:List Int} {cs:List Value} {x0:ai} {hh bc:Nat} {ba:Option Addr} {bs:List cN}
 (h:iJ V T R X D a c l cs x0 74 3 ba bc (fN bs) (bs.map fun b=>(b.da,b.dc,b.cf)) [] W) (hm: ∀j (hj:j<bs.length),kH bs[j] j hh) (hl:bs.length≤16):
 CW V T R X a c l cs {x0 with ba:=ba,bc:=bc,aj:=bs} W:=by
 obtain ⟨ra,rc,kK,su,Gq⟩:=h.own.recs (by decide);simp only [Value.slice.injEq,true_and]at kK;obtain ⟨rfl,rfl⟩:=kK;have DK:=h.lo;have ho: ∀q,eZ {x0 with ba:=ba,bc:=bc,aj:=bs} q→eZ x0 q∨ba=some q:=fun q hq=>by rcases hq with e|e|e|e|e|e<;>first|exact .inr e|exact .inl (.inr (.inl e))|exact .inl (.inr (.inr (.inl e)))|exact .inl (.inr (.inr (.inr (.inl e))))|exact .inl (.inr (.inr (.inr (.inr (.inl e)))))|exact .inl (.inr (.inr (.inr (.inr (.inr e)))))
 have hJ:=kj h.cw.sep.off h.old (fun q e=>(h.km q e).1) ho;refine {h.cw with case':={h.cw.case' with aj:=su,cS:=fun b hb=> ?_},bl:={h.cw.bl with aj:=fun p hp=> ?_,cS:=fun b hb p hp=> ?_},sep:={h.cw.sep with ba:=iU.of h.own,off:={hJ with cS:=fun b hb p hp=> ?_}}}
 ·replace hb:b∈bs:=hb
  obtain ⟨j,hj,rfl⟩:=List.mem_iff_getElem.1 hb;have h1:=hm j hj;refine ⟨by rw [h1.name,lR 98 j (by omega)];decide,(h.si _ (List.mem_map.2 ⟨_,hb,rfl⟩)).1,?_⟩;have:=h1.lF;unfold bB;omega
 ·have:=h.km p hp
  show X<p.block∧p.block<W.heap.size;omega
 ·have h2:=(h.si _ (List.mem_map.2 ⟨_,hb,rfl⟩)).2 p hp
  exact ⟨h2.1,h2.2.1⟩
 ·have h2:=(h.si _ (List.mem_map.2 ⟨_,hb,rfl⟩)).2 p hp
  exact h2.2.2.2.join ho h2.2.2.1
theorem bH.nil' (w:World) (m:Nat):bH w m none 0 []:=⟨Nat.le_refl _,by decide,fun i hi=>absurd hi (Nat.not_lt_zero _)⟩
section
variable{P:Program} (w:World)
theorem dO {o:Oper} {a:Act} {Q:Exit→Act→World→Prop} {K:Act→World→Prop} (s x:Operand) (t:TypeId)
 (ho:o.op= .call {callee:= .builtin .append,args:= #[s,x],argTypes:= #[t,t]})
 (base:Nat) (e:TypeId) (z:Value) (size bytes:Nat) (ht:P.underlying t=some (.slice e)) (iL:(P.info? e).map (fun i=>(i.zero,i.size,i.bytes))=some (some z,size,bytes)) (hzs:z.cells.size=size) (hsz:0<size)
 (v:Value) (n:Nat) (xs:List Value) (hs:a.eval s=v) (hown:w.ownsRow base e size v n xs)
 (b:Nat) (news:List Value) (hx:a.eval x= .slice (some ⟨b,0,none⟩) 1 1) (hl:news.length=size) (hnews:aQ w b e news) (h1:news.all (·.oneCell')=true)
 (h63:n≤100) (hbytes:bytes≤1000) (hbase:base≤w.heap.size)
 (h: ∀v' w',Hid (w'.ownsRow base e size v' (n+1) (xs++news))→Hid (∀a0,Ext a0 w→a0.heap.size≤base→Ext a0 w')→Hid (∀k,k<w.heap.size→some k≠v.ownBlock→w'.heap[k]?=w.heap[k]?)→Hid (w.heap.size≤w'.heap.size)→Hid (v'.ownBlock=v.ownBlock∨ ∃g,v'.ownBlock=some g∧w.heap.size≤g)→K (a.put o.dst v') w'):Oper.wp P o a w K Q:=by
 obtain ⟨i,hi,hz,hsize,hby⟩:=info_parts iL;have hlt:=hown.lt;have hb:(n+1)*bytes≤140737488355328:=Nat.le_trans (Nat.mul_le_mul (show n+1≤1000 by omega) hbytes) (by decide);have ue:n+1≤maxLen:=by unfold maxLen;omega
 have mU: ∀j u,news[j]?=some u→w.cell? ((⟨b,0,none⟩:Addr).add j)=some u:=fun j u hu=>by rw [cF,hnews.cell j];exact hu
 obtain ⟨v',w',hr,h2,h3,h4,h5⟩:=iM (P:=P) w base t o.type e i z size bytes ht hi hz hsize hby hzs hsz v n xs hown ⟨b,0,none⟩ 1 1 news (by rw [hl,Nat.one_mul]) mU (fun u hu=>List.all_eq_true.1 h1 u hu) ue hb hbase;unfold Oper.wp execOp;simp only [ho,resolve,invoke,builtin,Sem.run_bind,Sem.run_pure,Result.andThen_ok,List.map_toArray,List.map_cons,List.map_nil,hs,hx,hr];refine (h v' w' h2 (fun a0 ha hb0=>⟨ha.below.trans ⟨h3.os,h3.tape,h3.output,h3.size,fun k hk=>h3.block k (by have:=ha.size;omega) (fun e'=>by have:=hlt k e'.symm;omega)⟩,Nat.le_trans ha.drawn h4⟩) h3.block h3.size h5)
end
theorem Tryz.info_line:(Tryz.prog.info? 78).map (fun i=>(i.zero,i.size,i.bytes))=some (some (.agg kG.cells.toArray),12,120):=by kernel_rfl
theorem gK.snoc {l:List aS} {nb hh fr tb:Nat} {x:aS} (h:gK l nb hh) (hf:fr<nb) (ht:tb<nb) (hn:fr≠tb) (hx:p_ x l.length fr tb hh):gK (l++ [x]) nb hh:=by
 intro j hj;rw [List.length_append]at hj;simp only [List.length_cons,List.length_nil]at hj;by_cases q:j<l.length
 ·rw [List.getElem_append_left q];exact h j q
 ·have e:j=l.length:=by omega
  subst e;rw [List.getElem_append_right (Nat.le_refl _)];simp only [Nat.sub_self,List.getElem_cons_zero];exact ⟨fr,tb,hf,ht,hn,hx⟩
theorem p_.ji {x:aS} {i fr tb:Nat} {h:Int} (m:p_ x i fr tb h) (hi:i<16) (hf:fr<100) (ht:tb<100):x.name.size≤maxLen∧eI [x.cR,x.kq,x.rn,x.rd,x.qD,x.uf,x.sk,x.wI,x.cY,x.jH]:=by
 have a1:=m.r;have a2:=m.s0;have a3:=m.s1;have a4:=m.cY;have a5:=m.jH
 refine ⟨by rw [m.name,lR 108 i hi];decide,?_⟩;intro z hz;simp only [List.mem_cons,List.not_mem_nil,or_false]at hz;rcases hz with rfl|rfl|rfl|rfl|rfl|rfl|rfl|rfl|rfl|rfl<;>(try rw [m.cR])<;>(try rw [m.kq])<;>unfold bB<;>omega
theorem iJ.addLine {V W W':World} {T R X D:Nat} {a:Option Addr} {c:Nat} {l:List Int} {cs:List Value} {x0:ai} {e:TypeId} {m:Nat} {ga:Option Addr} {gc:Nat} {rows:List (List Value)} {si:List (Option Addr×Nat×List Int)} {sr:List (Option Addr×Nat×Nat×List (List Value))}
 (h:iJ V T R X D a c l cs x0 e m ga gc rows si sr W) {b:Option Addr} {k:Nat} {z:List Int} (hT:bJ W' T a c l) (hx:ar T W W') (hi:aI W' b k z) (hf:Fr W.heap.size b) (hb:z= []→b=none):iJ V T R X D a c l cs x0 e m ga gc rows (si++ [(b,k,z)]) sr W':=
 h.DL hT hx hi hf fun p hp=>by
  cases z with
  |nil=>rw [hb rfl]at hp;cases hp
  |cons u z=>
   obtain ⟨b3,o3,h4,h5⟩:=hi.cell 0 (by simp);rw [hp]at h4;cases h4
   exact cG h5
def kD (ls:List aS):List (Option Addr×Nat×List Int):=ls.map fun x=>(x.aa,x.ac,x.away)
theorem yz {V W w5:World} {T R X D:Nat} {a:Option Addr} {c:Nat} {l:List Int} {x0:ai} {ga:Option Addr} {gc:Nat} {ls:List aS} {x:aS} {v1:Value} {z0 z1 z2 z4 z5 z6 z7:Value}
 (h:iJ V T R X D a c l [z0,z1,z2,.slice ga ls.length gc,z4,z5,z6,z7] x0 78 12 ga gc (ls.map aS.cells) (kD ls++ [(x.aa,x.ac,x.away)]) [] W)
 (ho:w5.ownsRow D 78 12 v1 (ls.length+1) ((ls.map aS.cells).flatten++x.cells)) (he: ∀a0,Ext a0 W→a0.heap.size≤D→Ext a0 w5) (hb: ∀k,k<W.heap.size→some k≠Value.ownBlock (.slice ga ls.length gc)→w5.heap[k]?=W.heap[k]?) (hz:W.heap.size≤w5.heap.size)
 (hv:v1.ownBlock=Value.ownBlock (.slice ga ls.length gc)∨ ∃g,v1.ownBlock=some g∧W.heap.size≤g):
 ∃g2 k2,v1= .slice g2 (ls++ [x]).length k2∧w5.cell? ⟨X,3,none⟩=some (.slice ga ls.length gc)∧w5.cell? ⟨X,0,none⟩=some z0∧w5.frozen? ⟨X,3,none⟩=false∧
  iJ V T R X D a c l [z0,z1,z2,.slice g2 (ls++ [x]).length k2,z4,z5,z6,z7] x0 78 12 g2 k2 ((ls++ [x]).map aS.cells) (kD (ls++ [x])) [] (w5.setCell ⟨X,3,none⟩ (.slice g2 (ls++ [x]).length k2)):=by
 have hl0:(ls.map aS.cells).length=ls.length:=by simp
 obtain ⟨g2,k2,yo,P5,P6⟩:=h.push (r:=x.cells) (v1:=v1) 3 rfl (by rw [hl0];exact ho) he (by rw [hl0];exact hb) hz (by rw [hl0];exact hv);have hl:(ls++ [x]).length=ls.length+1:=by simp
 have hm:(ls++ [x]).map aS.cells=ls.map aS.cells++ [x.cells]:=by simp
 have hs:kD (ls++ [x])=kD ls++ [(x.aa,x.ac,x.away)]:=by simp [kD]
 rw [hl,hm,hs];rw [hl0]at yo P6;exact ⟨g2,k2,yo,P5.cw.b_.cell 3,P5.cw.b_.cell 0,P5.cw.b_.frozen 3,P6⟩
theorem Tryz.info_unit:(Tryz.prog.info? 67).map (fun i=>(i.zero,i.size,i.bytes))=some (some (.agg oz.cells.toArray),22,216):=by kernel_rfl
theorem jX.snoc {l:List aK} {nb hh bu:Nat} {x:aK} (h:jX l nb hh) (hb:bu<nb) (hx:sJ x l.length bu hh):jX (l++ [x]) nb hh:=by
 intro j hj;rw [List.length_append]at hj;simp only [List.length_cons,List.length_nil]at hj;by_cases q:j<l.length
 ·rw [List.getElem_append_left q];exact h j q
 ·have e:j=l.length:=by omega
  subst e;rw [List.getElem_append_right (Nat.le_refl _)];simp only [Nat.sub_self,List.getElem_cons_zero];exact ⟨bu,hb,hx⟩
theorem sJ.ji {x:aK} {i bu hh:Nat} (m:sJ x i bu (hh:Int)) (hi:i<16) (hf:bu<100):x.name.size≤maxLen∧(∀s∈x.aU,eI [s.width,s.aV])∧eI [x.cS,x.min,x.max,x.fu,x.fw,x.dv,x.cL,x.dx,x.fz,x.dy,x.startTime,x.dS,x.dz,x.dA,x.aA,x.bK,x.state,x.hours,x.output]:=by
 have hs:=nB x.aU m.H5;have a1:=m.min;have a2:=m.Ln;have a3:=m.max;have a4:=m.fu;have a5:=m.fw;have a6:=m.dv;have a7:=m.cL;have a8:=m.dx
 have b1:=m.fz;have b2:=m.dy;have b3:=m.startTime;have b4:=m.dS;have b5:=m.dz;have b6:=m.dA;have b7:=m.aA;have b8:=m.bK
 have d1:=m.state;have d2:=m.hours;have d0:=m.cS
 have d3:x.min≤x.output∧x.output≤x.max∨x.output=0:=by
  by_cases q:x.state=2
  ·exact .inl (m.output.1 q)
  ·exact .inr (m.output.2 q)
 refine ⟨by rw [m.name,lR 117 i hi];decide,fun g hg=> ?_,?_⟩
 ·have:=m.H5 g hg
  intro z hz;simp only [List.mem_cons,List.not_mem_nil,or_false]at hz;rcases hz with rfl|rfl<;>unfold bB<;>omega
 ·intro z hz
  simp only [List.mem_cons,List.not_mem_nil,or_false]at hz;rcases hz with rfl|rfl|rfl|rfl|rfl|rfl|rfl|rfl|rfl|rfl|rfl|rfl|rfl|rfl|rfl|rfl|rfl|rfl|rfl<;>unfold bB<;>omega
theorem iJ.LQ {V W W':World} {T R X D:Nat} {a:Option Addr} {c:Nat} {l:List Int} {cs:List Value} {x0:ai} {e:TypeId} {m:Nat} {ga:Option Addr} {gc:Nat} {rows:List (List Value)} {si:List (Option Addr×Nat×List Int)} {sr:List (Option Addr×Nat×Nat×List (List Value))}
 (h:iJ V T R X D a c l cs x0 e m ga gc rows si sr W) {b b2:Option Addr} {k k2 n:Nat} {z:List Int} {z2:List (List Value)} (hT:bJ W' T a c l) (hx:ar T W W') (hi:aI W' b k z) (hf:Fr W.heap.size b) (hb:z= []→b=none)
 (Qu:bH W' n b2 k2 z2) (hf2:Fr W.heap.size b2) (hb2: ∀p,b2=some p→p.block<W'.heap.size):iJ V T R X D a c l cs x0 e m ga gc rows (si++ [(b,k,z)]) (sr++ [(b2,k2,n,z2)]) W':=by
 have A:=h.addLine hT hx hi hf hb;have B:=h.Yr hT hx Qu hf2 hb2;exact ⟨A.cw,A.own,A.si,B.sr,A.old,A.size,A.lo⟩
theorem LR {w:World} {n:Nat} {b:Option Addr} {k:Nat} {z:List (List Value)} (h:bH w n b k z) (hz:0<z.length) (hn: ∀r∈z,0<r.length): ∀p,b=some p→p.block<w.heap.size:=by
 intro p hp;obtain ⟨b3,o3,h4,h5⟩:=h.cell 0 hz;rw [hp]at h4;cases h4
 have h6:=cG (h5 0 (hn _ (List.getElem_mem hz)));exact h6
def nC (us:List aK):List (Option Addr×Nat×List Int):=us.map fun x=>(x.aa,x.ac,x.away)
def nD (us:List aK):List (Option Addr×Nat×Nat×List (List Value)):=us.map fun x=>(x.sa,x.sc,2,x.aU.map dH.cells)
theorem GU {V W w5:World} {T R X D:Nat} {a:Option Addr} {c:Nat} {l:List Int} {x0:ai} {ga:Option Addr} {gc:Nat} {us:List aK} {x:aK} {v1:Value} {z0 z1 z2 z3 z5 z6 z7:Value}
 (h:iJ V T R X D a c l [z0,z1,z2,z3,.slice ga us.length gc,z5,z6,z7] x0 67 22 ga gc (us.map aK.cells) (nC us++ [(x.aa,x.ac,x.away)]) (nD us++ [(x.sa,x.sc,2,x.aU.map dH.cells)]) W)
 (ho:w5.ownsRow D 67 22 v1 (us.length+1) ((us.map aK.cells).flatten++x.cells)) (he: ∀a0,Ext a0 W→a0.heap.size≤D→Ext a0 w5) (hb: ∀k,k<W.heap.size→some k≠Value.ownBlock (.slice ga us.length gc)→w5.heap[k]?=W.heap[k]?) (hz:W.heap.size≤w5.heap.size)
 (hv:v1.ownBlock=Value.ownBlock (.slice ga us.length gc)∨ ∃g,v1.ownBlock=some g∧W.heap.size≤g):
 ∃g2 k2,v1= .slice g2 (us++ [x]).length k2∧w5.cell? ⟨X,4,none⟩=some (.slice ga us.length gc)∧w5.cell? ⟨X,0,none⟩=some z0∧w5.frozen? ⟨X,4,none⟩=false∧
  iJ V T R X D a c l [z0,z1,z2,z3,.slice g2 (us++ [x]).length k2,z5,z6,z7] x0 67 22 g2 k2 ((us++ [x]).map aK.cells) (nC (us++ [x])) (nD (us++ [x])) (w5.setCell ⟨X,4,none⟩ (.slice g2 (us++ [x]).length k2)):=by
 have hl0:(us.map aK.cells).length=us.length:=by simp
 obtain ⟨g2,k2,yo,P5,P6⟩:=h.push (r:=x.cells) (v1:=v1) 4 rfl (by rw [hl0];exact ho) he (by rw [hl0];exact hb) hz (by rw [hl0];exact hv);have hl:(us++ [x]).length=us.length+1:=by simp
 have hm:(us++ [x]).map aK.cells=us.map aK.cells++ [x.cells]:=by simp
 have hs:nC (us++ [x])=nC us++ [(x.aa,x.ac,x.away)]:=by simp [nC]
 have hr:nD (us++ [x])=nD us++ [(x.sa,x.sc,2,x.aU.map dH.cells)]:=by simp [nD]
 rw [hl,hm,hs,hr];rw [hl0]at yo P6;exact ⟨g2,k2,yo,P5.cw.b_.cell 4,P5.cw.b_.cell 0,P5.cw.b_.frozen 4,P6⟩
theorem OX {fr yn nb tb:Nat} (h:fr<nb) (hy:yn+1<nb) (e:(fr+1+yn) % nb=tb):tb<nb∧fr≠tb:=by
 have h1:tb<nb:=by rw [←e];exact Nat.mod_lt _ (by omega)
 refine ⟨h1,?_⟩;by_cases q:fr+1+yn<nb
 ·rw [Nat.mod_eq_of_lt q]at e;omega
 ·rw [Nat.mod_eq_sub_mod (by omega),Nat.mod_eq_of_lt (by omega)]at e;omega
def zN:bG:=⟨{data:= #[]},0,0,0,0,0,0,0,0⟩
def OY:dX:=⟨{data:= #[]},0,none,0,[],none,0,[],none,0,[]⟩
theorem Tryz.info_store:(Tryz.prog.info? 82).map (fun i=>(i.zero,i.size,i.bytes))=some (some (.agg zN.cells.toArray),9,80):=by kernel_rfl
theorem Tryz.info_tie:(Tryz.prog.info? 84).map (fun i=>(i.zero,i.size,i.bytes))=some (some (.agg OY.cells.toArray),5,96):=by kernel_rfl
theorem nA.ji {x:bG} {nb:Nat} (m:nA x nb) (hn:nb≤100):x.name.size≤maxLen∧eI [x.cS,x.capacity,x.initial,x.final,x.fS,x.discharge,x.en,x.ed]:=by
 have a1:=m.cS;have a2:=m.capacity;have a3:=m.initial;have a4:=m.final;have a5:=m.fS;have a6:=m.discharge;have a7:=m.XQ
 refine ⟨by rw [m.name];decide,?_⟩;intro z hz;simp only [List.mem_cons,List.not_mem_nil,or_false]at hz;rcases hz with rfl|rfl|rfl|rfl|rfl|rfl|rfl|rfl<;>unfold bB<;>omega
theorem int_lt {w:World} {b:Option Addr} {k:Nat} {z:List Int} (h:aI w b k z) (hz:0<z.length): ∀p,b=some p→p.block<w.heap.size:=by
 intro p hp;obtain ⟨b3,o3,h4,h5⟩:=h.cell 0 hz;rw [hp]at h4;cases h4
 exact cG h5
theorem DO {V W w5:World} {T R X D:Nat} {a:Option Addr} {c:Nat} {l:List Int} {x0:ai} {x:bG} {v1:Value} {z0 z1 z2 z3 z4 z6 z7:Value}
 (h:iJ V T R X D a c l [z0,z1,z2,z3,z4,.slice none 0 0,z6,z7] x0 82 9 none 0 [] [] [] W) (hx:x.name.size≤maxLen∧eI [x.cS,x.capacity,x.initial,x.final,x.fS,x.discharge,x.en,x.ed])
 (ho:w5.ownsRow D 82 9 v1 1 x.cells) (he: ∀a0,Ext a0 W→a0.heap.size≤D→Ext a0 w5) (hb: ∀k,k<W.heap.size→some k≠Value.ownBlock (.slice none 0 0)→w5.heap[k]?=W.heap[k]?) (hz:W.heap.size≤w5.heap.size)
 (hv:v1.ownBlock=Value.ownBlock (.slice none 0 0)∨ ∃g,v1.ownBlock=some g∧W.heap.size≤g):
 ∃g2 k2,v1= .slice g2 1 k2∧w5.cell? ⟨X,5,none⟩=some (.slice none 0 0)∧w5.frozen? ⟨X,5,none⟩=false∧
  CW V T R X a c l [z0,z1,z2,z3,z4,.slice g2 1 k2,z6,z7] {x0 with sa:=g2,sc:=k2,stores:= [x]} (w5.setCell ⟨X,5,none⟩ (.slice g2 1 k2)):=by
 obtain ⟨g2,k2,yo,P5,P6⟩:=h.push (r:=x.cells) (v1:=v1) 5 rfl ho he hb hz hv;refine ⟨g2,k2,yo,P5.cw.b_.cell 5,P5.cw.b_.frozen 5,?_⟩;have P7:iJ V T R X D a c l [z0,z1,z2,z3,z4,.slice g2 1 k2,z6,z7] x0 82 9 g2 k2 [x.cells] [] [] (w5.setCell ⟨X,5,none⟩ (.slice g2 1 k2)):=P6;obtain ⟨ra,rc,kK,su,Gq⟩:=P7.own.recs (by decide);simp only [Value.slice.injEq,true_and]at kK;obtain ⟨rfl,rfl⟩:=kK;have DK:=P7.lo;have ho: ∀q,eZ {x0 with sa:=g2,sc:=k2,stores:= [x]} q→eZ x0 q∨g2=some q:=fun q hq=>by rcases hq with e|e|e|e|e|e<;>first|exact .inl (.inl e)|exact .inl (.inr (.inl e))|exact .inl (.inr (.inr (.inl e)))|exact .inr e|exact .inl (.inr (.inr (.inr (.inr (.inl e)))))|exact .inl (.inr (.inr (.inr (.inr (.inr e)))))
 have hJ:=kj P7.cw.sep.off P7.old (fun q e=>(P7.km q e).1) ho;refine {P7.cw with case':={P7.cw.case' with stores:=su,store:=fun b hb=> ?_},bl:={P7.cw.bl with stores:=fun p hp=> ?_},sep:={P7.cw.sep with sa:=iU.of P7.own,off:={hJ with}}}
 ·rw [List.mem_singleton]at hb;subst hb;exact hx
 ·have:=P7.km p hp
  show X<p.block∧p.block<(w5.setCell ⟨X,5,none⟩ (.slice g2 1 k2)).heap.size;omega
theorem JB {V W w5:World} {T R X D:Nat} {a:Option Addr} {c:Nat} {l:List Int} {x0:ai} {x:dX} {v1:Value} {z0 z1 z2 z3 z4 z5 z7:Value}
 (h:iJ V T R X D a c l [z0,z1,z2,z3,z4,z5,.slice none 0 0,z7] x0 84 5 none 0 [] [(x.ia,x.ic,x.imp),(x.ea,x.ec,x.exp),(x.pa,x.pc,x.aV)] [] W) (hx:x.name.size≤maxLen∧bB x.cS)
 (ho:w5.ownsRow D 84 5 v1 1 x.cells) (he: ∀a0,Ext a0 W→a0.heap.size≤D→Ext a0 w5) (hb: ∀k,k<W.heap.size→some k≠Value.ownBlock (.slice none 0 0)→w5.heap[k]?=W.heap[k]?) (hz:W.heap.size≤w5.heap.size)
 (hv:v1.ownBlock=Value.ownBlock (.slice none 0 0)∨ ∃g,v1.ownBlock=some g∧W.heap.size≤g):
 ∃g2 k2,v1= .slice g2 1 k2∧w5.cell? ⟨X,6,none⟩=some (.slice none 0 0)∧w5.cell? ⟨X,0,none⟩=some z0∧w5.frozen? ⟨X,6,none⟩=false∧
  CW V T R X a c l [z0,z1,z2,z3,z4,z5,.slice g2 1 k2,z7] {x0 with ta:=g2,tc:=k2,aB:= [x]} (w5.setCell ⟨X,6,none⟩ (.slice g2 1 k2)):=by
 obtain ⟨g2,k2,yo,P5,P6⟩:=h.push (r:=x.cells) (v1:=v1) 6 rfl ho he hb hz hv;refine ⟨g2,k2,yo,P5.cw.b_.cell 6,P5.cw.b_.cell 0,P5.cw.b_.frozen 6,?_⟩;have P7:iJ V T R X D a c l [z0,z1,z2,z3,z4,z5,.slice g2 1 k2,z7] x0 84 5 g2 k2 [x.cells] [(x.ia,x.ic,x.imp),(x.ea,x.ec,x.exp),(x.pa,x.pc,x.aV)] [] (w5.setCell ⟨X,6,none⟩ (.slice g2 1 k2)):=P6;obtain ⟨ra,rc,kK,su,Gq⟩:=P7.own.recs (by decide);simp only [Value.slice.injEq,true_and]at kK;obtain ⟨rfl,rfl⟩:=kK;have DK:=P7.lo;have s1:=P7.si (x.ia,x.ic,x.imp) (by simp);have s2:=P7.si (x.ea,x.ec,x.exp) (by simp);have s3:=P7.si (x.pa,x.pc,x.aV) (by simp);have ho: ∀q,eZ {x0 with ta:=g2,tc:=k2,aB:= [x]} q→eZ x0 q∨g2=some q:=fun q hq=>by rcases hq with e|e|e|e|e|e<;>first|exact .inl (.inl e)|exact .inl (.inr (.inl e))|exact .inl (.inr (.inr (.inl e)))|exact .inl (.inr (.inr (.inr (.inl e))))|exact .inr e|exact .inl (.inr (.inr (.inr (.inr (.inr e)))))
 have hJ:=kj P7.cw.sep.off P7.old (fun q e=>(P7.km q e).1) ho;refine {P7.cw with case':={P7.cw.case' with aB:=su,tie:=fun b hb=> ?_},bl:={P7.cw.bl with aB:=fun p hp=> ?_,tie:=fun b hb=>⟨fun p hp=> ?_,fun p hp=> ?_,fun p hp=> ?_⟩},sep:={P7.cw.sep with ta:=iU.of P7.own,off:={hJ with tie:=fun b hb=>⟨fun p hp=> ?_,fun p hp=> ?_,fun p hp=> ?_⟩}}}
 ·rw [List.mem_singleton]at hb;subst hb;exact ⟨hx.1,s1.1,s2.1,s3.1,hx.2⟩
 ·have:=P7.km p hp
  show X<p.block∧p.block<(w5.setCell ⟨X,6,none⟩ (.slice g2 1 k2)).heap.size;omega
 ·rw [List.mem_singleton]at hb;subst hb;have h2:=s1.2 p hp;exact ⟨h2.1,h2.2.1⟩
 ·rw [List.mem_singleton]at hb;subst hb;have h2:=s2.2 p hp;exact ⟨h2.1,h2.2.1⟩
 ·rw [List.mem_singleton]at hb;subst hb;have h2:=s3.2 p hp;exact ⟨h2.1,h2.2.1⟩
 ·rw [List.mem_singleton]at hb;subst hb;have h2:=s1.2 p hp;exact h2.2.2.2.join ho h2.2.2.1
 ·rw [List.mem_singleton]at hb;subst hb;have h2:=s2.2 p hp;exact h2.2.2.2.join ho h2.2.2.1
 ·rw [List.mem_singleton]at hb;subst hb;have h2:=s3.2 p hp;exact h2.2.2.2.join ho h2.2.2.1
section
variable{P:Program} (w:World)
theorem eH {o:Oper} {a:Act} {Q:Exit→Act→World→Prop} {K:Act→World→Prop} (s x:Operand) (t:TypeId)
 (ho:o.op= .call {callee:= .builtin .append,args:= #[s,x],argTypes:= #[t,t]})
 (base:Nat) (e:TypeId) (z:Value) (size bytes:Nat) (ht:P.underlying t=some (.slice e)) (iL:(P.info? e).map (fun i=>(i.zero,i.size,i.bytes))=some (some z,size,bytes)) (hzs:z.cells.size=size) (hsz:0<size)
 (v:Value) (n:Nat) (xs:List Value) (hs:a.eval s=v) (hown:w.ownsRow base e size v n xs)
 (xa:Option Addr) (m c:Nat) (news:List Value) (hx:a.eval x= .slice xa m c) (hl:news.length=m*size) (hnews: ∀ad,xa=some ad→ ∀j u,news[j]?=some u→w.cell? (ad.add j)=some u) (h1: ∀u∈news,u.oneCell'=true)
 (hnil:xa=none→m=0∧c=0)
 (h63:n+m≤1000) (hbytes:bytes≤1000) (hbase:base≤w.heap.size)
 (h: ∀v' w',Hid (w'.ownsRow base e size v' (n+m) (xs++news))→Hid (∀a0,Ext a0 w→a0.heap.size≤base→Ext a0 w')→Hid (∀k,k<w.heap.size→some k≠v.ownBlock→w'.heap[k]?=w.heap[k]?)→Hid (w.heap.size≤w'.heap.size)→Hid (v'.ownBlock=v.ownBlock∨ ∃g,v'.ownBlock=some g∧w.heap.size≤g)→K (a.put o.dst v') w'):Oper.wp P o a w K Q:=by
 obtain ⟨i,hi,hz,hsize,hby⟩:=info_parts iL;have hlt:=hown.lt;have hb:(n+m)*bytes≤140737488355328:=Nat.le_trans (Nat.mul_le_mul h63 hbytes) (by decide);have ue:n+m≤maxLen:=by unfold maxLen;omega
 cases xa with
 |none=>
  obtain ⟨rfl,rfl⟩:=hnil rfl;have hn:news= []:=List.eq_nil_of_length_eq_zero (by simpa using hl);subst hn;have hrun:=run_append_owned_none (P:=P) (w:=w) base t o.type e i size ht hi v n xs hown;unfold Oper.wp;simp [execOp,ho,resolve,invoke,builtin,hs,hx,hrun,Result.andThen];exact h v w (ae (by simpa using hown)) (fun _ h _=>h) (fun _ _ _=>rfl) (Nat.le_refl _) (.inl rfl)
 |some ad=>
  obtain ⟨v',w',hr,h2,h3,h4,h5⟩:=iM (P:=P) w base t o.type e i z size bytes ht hi hz hsize hby hzs hsz v n xs hown ad m c news hl (hnews ad rfl) h1 ue hb hbase;unfold Oper.wp execOp;simp only [ho,resolve,invoke,builtin,Sem.run_bind,Sem.run_pure,Result.andThen_ok,List.map_toArray,List.map_cons,List.map_nil,hs,hx,hr];refine (h v' w' h2 (fun a0 ha hb0=>⟨ha.below.trans ⟨h3.os,h3.tape,h3.output,h3.size,fun k hk=>h3.block k (by have:=ha.size;omega) (fun e'=>by have:=hlt k e'.symm;omega)⟩,Nat.le_trans ha.drawn h4⟩) h3.block h3.size h5)
end
theorem ownsRow_lit (w:World) (e:TypeId) (m:Nat):(w.alloc (.cells #[] e)).ownsRow w.heap.size e m (.slice (some ⟨w.heap.size,0,none⟩) 0 0) 0 []:=
 ⟨by simp,.inr ⟨w.heap.size,0,#[],rfl,Nat.le_refl _,by unfold World.alloc;simp,Nat.le_refl _,Nat.zero_le _,by simp,by simp⟩⟩
theorem Tryz.info_outage:(Tryz.prog.info? 87).map (fun i=>(i.zero,i.size,i.bytes))=some (some (.agg kx.cells.toArray),4,72):=by kernel_rfl
theorem qf.snoc {l:List aY} {nl nu:Nat} {x:aY} (h:qf l nl nu) (hx:yt x l.length nl nu):qf (l++ [x]) nl nu:=by
 intro j hj;rw [List.length_append]at hj;simp only [List.length_cons,List.length_nil]at hj;by_cases q:j<l.length
 ·rw [List.getElem_append_left q];exact h j q
 ·have e:j=l.length:=by omega
  subst e;rw [List.getElem_append_right (Nat.le_refl _)];simp only [Nat.sub_self,List.getElem_cons_zero];exact hx
theorem yt.ji {x:aY} {i nl nu:Nat} (m:yt x i nl nu) (hi:i<16) (hn:nu<1000):x.name.size≤maxLen∧ ∀m∈x.moves,eI [m.unit,m.up,m.down]:=by
 refine ⟨by rw [m.name,lR 111 i hi];decide,fun g hg=> ?_⟩;have:=m.moves.move g hg;intro z hz;simp only [List.mem_cons,List.not_mem_nil,or_false]at hz;rcases hz with rfl|rfl|rfl<;>unfold bB<;>omega
theorem bH.flat {w:World} {m:Nat} {a:Option Addr} {c:Nat} {rows:List (List Value)} (h:bH w m a c rows) (hm:0<m) (hl: ∀r∈rows,r.length=m): ∀ad,a=some ad→ ∀j u,rows.flatten[j]?=some u→w.cell? (ad.add j)=some u:=by
 intro ad ha j u hu;have hj:j<rows.flatten.length:=(List.getElem?_eq_some_iff.1 hu).1;rw [gC rows hl]at hj;have hi:j/m<rows.length:=Nat.div_lt_of_lt_mul (by rw [Nat.mul_comm];exact hj);obtain ⟨b,o,h1,h2⟩:=h.cell (j/m) hi;rw [ha]at h1;cases h1
 have hr:(rows[j/m]).length=m:=hl _ (List.getElem_mem hi);have hjm:j % m<(rows[j/m]).length:=by rw [hr];exact Nat.mod_lt _ hm
 have h3:=h2 (j % m) hjm;have h4:=vk rows hl (j/m) (j % m) hi (Nat.mod_lt _ hm);have h5:j/m*m+j % m=j:=by rw [Nat.mul_comm];exact Nat.div_add_mod j m
 rw [h5,hu,List.getElem?_eq_getElem hjm]at h4;have h6:(Addr.add ⟨b,o,none⟩ j)=⟨b,o+j,none⟩:=by unfold Addr.add;split<;>simp_all
 rw [h6,Option.some.inj h4,←h3,Nat.add_assoc,h5]
def BO (os:List aY):List (Option Addr×Nat×List Int):=os.map fun x=>(x.la,x.lc,x.lines)
def BP (os:List aY):List (Option Addr×Nat×Nat×List (List Value)):=os.map fun x=>(x.ma,x.mc,3,x.moves.map bL.cells)
theorem JC {V W:World} {T R X D:Nat} {a:Option Addr} {c:Nat} {l:List Int} {cs:List Value} {x0:ai} {ga:Option Addr} {gc:Nat} {xs:List aY}
 (h:iJ V T R X D a c l cs x0 87 4 ga gc (xs.map aY.cells) (BO xs) (BP xs) W) (hm: ∀x∈xs,x.name.size≤maxLen∧ ∀m∈x.moves,eI [m.unit,m.up,m.down]):
 a_ W {x0 with oa:=ga,oc:=gc,outs:=xs}∧bZ (fun b=>X<b∧b<W.heap.size) {x0 with oa:=ga,oc:=gc,outs:=xs}∧eh W {x0 with oa:=ga,oc:=gc,outs:=xs}:=by
 obtain ⟨ra,rc,kK,su,Gq⟩:=h.own.recs (by decide);simp only [Value.slice.injEq,true_and]at kK;obtain ⟨rfl,rfl⟩:=kK;have DK:=h.lo;have hs:=fun b (hb:b∈xs)=>h.si (b.la,b.lc,b.lines) (List.mem_map.2 ⟨b,hb,rfl⟩);have hr:=fun b (hb:b∈xs)=>h.sr (b.ma,b.mc,3,b.moves.map bL.cells) (List.mem_map.2 ⟨b,hb,rfl⟩);have ho: ∀q,eZ {x0 with oa:=ga,oc:=gc,outs:=xs} q→eZ x0 q∨ga=some q:=fun q hq=>by rcases hq with e|e|e|e|e|e<;>first|exact .inl (.inl e)|exact .inl (.inr (.inl e))|exact .inl (.inr (.inr (.inl e)))|exact .inl (.inr (.inr (.inr (.inl e))))|exact .inl (.inr (.inr (.inr (.inr (.inl e)))))|exact .inr e
 have hJ:=kj h.cw.sep.off h.old (fun q e=>(h.km q e).1) ho;refine ⟨{h.cw.case' with outs:=su,o:=fun b hb=>⟨(hm b hb).1,(hs b hb).1,(hr b hb).1,(hm b hb).2⟩},{h.cw.bl with outs:=fun p hp=> ?_,o:=fun b hb=>⟨fun p hp=> ?_,fun p hp=> ?_⟩},{h.cw.sep with oa:=iU.of h.own,off:={hJ with o:=fun b hb=>⟨fun p hp=> ?_,fun p hp=> ?_⟩}}⟩
 ·have:=h.km p hp
  show X<p.block∧p.block<W.heap.size;omega
 ·have h2:=(hs b hb).2 p hp;exact ⟨h2.1,h2.2.1⟩
 ·have h2:=(hr b hb).2 p hp;exact ⟨h2.1,h2.2.1⟩
 ·have h2:=(hs b hb).2 p hp;exact h2.2.2.2.join ho h2.2.2.1
 ·have h2:=(hr b hb).2 p hp;exact h2.2.2.2.join ho h2.2.2.1
theorem CW.reset {V W W':World} {T R X:Nat} {a:Option Addr} {c:Nat} {l:List Int} {cs cs':List Value} {x x':ai} (h:CW V T R X a c l cs x W) (hA:aQ W' X 32 cs') (hx:ar X W W') (hc:a_ W x') (hb:bZ (fun b=>X<b∧b<W.heap.size) x') (hS:eh W x'):CW V T R X a c l cs' x' W':=by
 have hp:=h.pos;have hs:=hx.size;exact ⟨h.tape.but hx (by omega),hA,h.res.but hx (by omega),hx.ext h.ext (by omega),hc.but hx (hb.mono fun b hb=>by omega),hb.mono fun b hb=>by omega,h.pos,hS.but hx fun q hq=>by have:=hb.outer q hq;omega⟩
theorem iJ.GV {V W w5:World} {T R X D:Nat} {a:Option Addr} {c:Nat} {l:List Int} {cs:List Value} {x0:ai} {e:TypeId} {m:Nat} {ga:Option Addr} {gc:Nat} {rows rows':List (List Value)} {si:List (Option Addr×Nat×List Int)} {sr:List (Option Addr×Nat×Nat×List (List Value))}
 (h:iJ V T R X D a c l cs x0 e m ga gc rows si sr W) {v1:Value} (ho:aJ w5 D e m v1 rows') (he: ∀a0,Ext a0 W→a0.heap.size≤D→Ext a0 w5) (hb: ∀k,k<W.heap.size→some k≠Value.ownBlock (.slice ga rows.length gc)→w5.heap[k]?=W.heap[k]?) (hz:W.heap.size≤w5.heap.size)
 (hv:v1.ownBlock=Value.ownBlock (.slice ga rows.length gc)∨ ∃g,v1.ownBlock=some g∧W.heap.size≤g):
 ∃g2 k2,v1= .slice g2 rows'.length k2∧iJ V T R X D a c l cs x0 e m g2 k2 rows' si sr w5:=by
 obtain ⟨g2,k2,rfl⟩:=fg ho.own;have DK:=h.lo;have hsz:=h.size
 obtain ⟨K,M9,Lr,hKx⟩:=jM (base:=D) (v:= .slice ga rows.length gc) hsz (fun k q=>(h.own.own.lt k q).1) he hb hz
 have Ys:K=W.heap.size∨ ∃q,ga=some q∧q.block=K:=by
  rcases Lr with q|q
  ·exact .inl q
  ·cases ga with
   |none=>cases q
   |some q'=>exact .inr ⟨q',rfl,by have e2:some q'.block=some K:=q;cases e2;rfl⟩
 have Js: ∀p:Addr,X<p.block∧p.block<W.heap.size∧(∀q,ga=some q→p.block≠q.block)∧bA x0 p.block→p.block≠K:=fun p hp=>by
  rcases Ys with q|⟨q,q1,q2⟩
  ·omega
  ·have:=hp.2.2.1 q q1;omega
 have hg2: ∀q,g2=some q→(∃q0,ga=some q0∧q.block=q0.block)∨W.heap.size≤q.block:=fun q hq=>by
  subst hq;rcases hv with e1|⟨g,e1,e2⟩
  ·cases ga with
   |none=>cases e1
   |some q'=>exact .inl ⟨q',rfl,by have e3:some q.block=some q'.block:=e1;exact Option.some.inj e3⟩
  ·have e3:some q.block=some g:=e1
   cases e3;exact .inr e2
 have hs5:=hKx.size;refine ⟨g2,k2,rfl,h.cw.but hKx (by omega) (h.old.mono fun b hb=>by omega),ho,fun s hm=> ?_,fun s hm=> ?_,h.old,by omega,h.lo⟩
 ·obtain ⟨h1,h2⟩:=h.si s hm
  refine ⟨h1.dC hKx (fun p q=>Js p (h2 p q)),fun p q=> ?_⟩;have h3:=h2 p q;refine ⟨h3.1,by omega,fun q' hq'=> ?_,h3.2.2.2⟩;rcases hg2 q' hq' with⟨q0,h5,h6⟩|h5
  ·have:=h3.2.2.1 q0 h5;omega
  ·omega
 ·obtain ⟨h1,h2⟩:=h.sr s hm
  refine ⟨h1.but hKx (fun p q=>Js p (h2 p q)),fun p q=> ?_⟩;have h3:=h2 p q;refine ⟨h3.1,by omega,fun q' hq'=> ?_,h3.2.2.2⟩;rcases hg2 q' hq' with⟨q0,h5,h6⟩|h5
  ·have:=h3.2.2.1 q0 h5;omega
  ·omega
theorem yA {V W:World} {T R X D:Nat} {a:Option Addr} {c:Nat} {l:List Int} {cs:List Value} {x0:ai} {x:aY} (h:CW V T R X a c l cs x0 W) (hD:D≤W.heap.size) (old:bZ (fun b=>b<D) x0) (DK:X<D)
 (hi:aI W x.la x.lc x.lines) (hr:bH W 3 x.ma x.mc (x.moves.map bL.cells)) (hl: ∀p,x.la=some p→X<p.block∧p.block<D∧bA x0 p.block) (hm: ∀p,x.ma=some p→X<p.block∧p.block<D∧bA x0 p.block):
 iJ V T R X D a c l cs x0 87 4 (some ⟨W.heap.size,0,none⟩) 0 [] (BO (x0.outs++ [x])) (BP (x0.outs++ [x])) (W.alloc (.cells #[] 87)):=by
 have xa:=(Ext.refl W).alloc (.cells #[] 87);have hsz:(W.alloc (.cells #[] 87)).heap.size=W.heap.size+1:=by simp
 have ho:=ownsRow_lit W 87 4;refine ⟨h.grow xa,⟨⟨ho.1,?_⟩,fun r hr=>by cases hr⟩,fun s hs=> ?_,fun s hs=> ?_,old,by omega,DK⟩
 ·rcases ho.2 with q|⟨g,cap,cur,hv,hb,rest⟩
  ·cases q.1
  ·exact .inr ⟨g,cap,cur,hv,by cases hv;exact hD,rest⟩
 ·obtain ⟨o,ho,rfl⟩:=List.mem_map.1 hs
  rcases List.mem_append.1 ho with q|q
  ·have h1:=(h.case'.o o q).2.1
   refine ⟨h1.ext xa,fun p hp=> ?_⟩;have h2:=(h.bl.o o q).1 p hp;have h3:=(old.o o q).1 p hp
   exact ⟨h2.1,by omega,fun q' e=>by cases e;show p.block≠W.heap.size;omega,(h.sep.off.o o q).1 p hp⟩
  ·rw [List.mem_singleton]at q;subst q
   refine ⟨hi.ext xa,fun p hp=> ?_⟩;have h2:=hl p hp;exact ⟨h2.1,by omega,fun q' e=>by cases e;show p.block≠W.heap.size;omega,h2.2.2⟩
 ·obtain ⟨o,ho,rfl⟩:=List.mem_map.1 hs
  rcases List.mem_append.1 ho with q|q
  ·have h1:=(h.case'.o o q).2.2.1
   refine ⟨h1.ext xa,fun p hp=> ?_⟩;have h2:=(h.bl.o o q).2 p hp;have h3:=(old.o o q).2 p hp
   exact ⟨h2.1,by omega,fun q' e=>by cases e;show p.block≠W.heap.size;omega,(h.sep.off.o o q).2 p hp⟩
  ·rw [List.mem_singleton]at q;subst q
   refine ⟨hr.ext xa,fun p hp=> ?_⟩;have h2:=hm p hp;exact ⟨h2.1,by omega,fun q' e=>by cases e;show p.block≠W.heap.size;omega,h2.2.2⟩
theorem vL {V W:World} {T R X D K j:Nat} {a:Option Addr} {c:Nat} {l:List Int} {cs:List Value} {x0:ai} {ga:Option Addr} {gc:Nat} {xs:List aY} {v:Value}
 (h:iJ V T R X D a c l cs x0 87 4 ga gc (xs.map aY.cells) (BO xs) (BP xs) W) (hm: ∀x∈xs,x.name.size≤maxLen∧ ∀m∈x.moves,eI [m.unit,m.up,m.down]) (hX:X<K) (hK:K<D) (old:bZ (fun b=>b≠K) x0) (ho: ∀x∈xs,bT (fun b=>b≠K) x.la∧bT (fun b=>b≠K) x.ma):
 CW V T R X a c l cs x0 (W.setCell ⟨K,j,none⟩ v)∧a_ (W.setCell ⟨K,j,none⟩ v) {x0 with oa:=ga,oc:=gc,outs:=xs}∧bZ (fun b=>X<b∧b<(W.setCell ⟨K,j,none⟩ v).heap.size) {x0 with oa:=ga,oc:=gc,outs:=xs}∧eh (W.setCell ⟨K,j,none⟩ v) {x0 with oa:=ga,oc:=gc,outs:=xs}:=by
 have hd:=JC h hm;have hx:=((ar.refl K W).eL (o:=j) (v:=v));have hs:=hx.size
 have hO:bT (fun b=>b≠K) ga:=fun p hp=>by
  have:=h.km p hp;show p.block≠K;omega
 have hB:bZ (fun b=>b≠K) {x0 with oa:=ga,oc:=gc,outs:=xs}:={old with outs:=hO,o:=ho};exact ⟨h.cw.but hx hX old,hd.1.but hx hB,hd.2.1.mono fun b hb=>by omega,hd.2.2.but hx hB.outer⟩
def fh:Nat→Code→Code
 |0,c=>c
 |n+1,.seq _ b=>fh n b
 |_+1,c=>c
noncomputable def Tryz.caseCode:Code:=(Tryz.f10).body.getD .skip
end Go.Proofs.YtkpngkdgphojlaaGreat
