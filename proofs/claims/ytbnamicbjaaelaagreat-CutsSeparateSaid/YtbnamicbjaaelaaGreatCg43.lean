/- Texts of the proof. -/
import Derived.Test.YtbnamicbjaaelaaGreatCg28
import Derived.Test.YtbnamicbjaaelaaGreatCg42
set_option linter.all false
namespace Go.Proofs.YtbnamicbjaaelaaGreat
open Go.Proofs.Tryz
open Go.RowKit
def gh (l:List dK):List (List Value):=l.map dK.cells
theorem Ce (l:List dK) (g:dK):gh (l++ [g])=gh l++ [[.string g.name,.slice g.da g.cV.length g.dc,i64 g.jF]]:=by simp [gh,dK.cells]
theorem iD (l:List dK):(gh l).length=l.length:=by simp [gh]
theorem MR {V W w5:World} {T R X D:Nat} {a:Option Addr} {c:Nat} {l:List Int} {x0:ay} {hh rc bc dc k:Nat} {rb ba da:Option Addr} {bs:List dK} {dm:List Int} {sh:Int} {v1 z1 z2 z3 z4 z5:Value}
 (h:iQ V T R X D a c l [i64 (hh:Int),.slice rb hh rc,.slice ba bs.length bc,z1,z2,z3,z4,z5] x0 62 3 ba bc (gh bs) ((bs.map λb=>(b.da,b.dc,b.cV))++ [(da,dc,dm)]) [] W) (hd:dm.length=hh)
 (ho:w5.ownsRow D 62 3 v1 (bs.length+1) ((gh bs).flatten++ [.string (aW 98 k),.slice da hh dc,i64 sh])) (he: ∀a0,Ext a0 W->a0.heap.size<=D->Ext a0 w5) (hb: ∀k,k<W.heap.size->some k≠Value.ownBlock (.slice ba bs.length bc)->w5.heap[k]?=W.heap[k]?) (hz:W.heap.size<=w5.heap.size)
 (hv:v1.ownBlock=Value.ownBlock (.slice ba bs.length bc)\/ ∃g,v1.ownBlock=some g/\W.heap.size<=g):
 ∃g2 k2,v1= .slice g2 (bs++ [(⟨aW 98 k,da,dc,dm,sh⟩:dK)]).length k2/\w5.cell? ⟨X,2,none⟩=some (.slice ba bs.length bc)/\w5.frozen? ⟨X,2,none⟩=false/\
  iQ V T R X D a c l [i64 (hh:Int),.slice rb hh rc,.slice g2 (bs++ [(⟨aW 98 k,da,dc,dm,sh⟩:dK)]).length k2,z1,z2,z3,z4,z5] x0 62 3 g2 k2 (gh (bs++ [(⟨aW 98 k,da,dc,dm,sh⟩:dK)])) ((bs++ [(⟨aW 98 k,da,dc,dm,sh⟩:dK)]).map λb=>(b.da,b.dc,b.cV)) [] (w5.setCell ⟨X,2,none⟩ (.slice g2 (bs++ [(⟨aW 98 k,da,dc,dm,sh⟩:dK)]).length k2)):=by
 obtain ⟨g2,k2,tB,P5,P6⟩:=h.push (r:= [.string (aW 98 k),.slice da hh dc,i64 sh]) (v1:=v1) 2 rfl (by rw [iD];exact ho) he (by rw [iD];exact hb) hz (by rw [iD];exact hv);have hl:(bs++ [(⟨aW 98 k,da,dc,dm,sh⟩:dK)]).length=bs.length+1:=aG;have hr:gh (bs++ [(⟨aW 98 k,da,dc,dm,sh⟩:dK)])=gh bs++ [[.string (aW 98 k),.slice da hh dc,i64 sh]]:=by rw [Ce];simp only;rw [hd]
 have hm:(bs++ [(⟨aW 98 k,da,dc,dm,sh⟩:dK)]).map (λb=>(b.da,b.dc,b.cV))=(bs.map λb=>(b.da,b.dc,b.cV))++ [(da,dc,dm)]:=aG;rw [hl,hr,hm];rw [iD]at tB P6;exact ⟨g2,k2,tB,(P5.cw.cg.cell 2).trans rfl,P5.cw.cg.frozen 2,P6⟩
theorem Tryz.info_bus:(Tryz.prog.info? 62).map (λi=>(i.zero,i.size,i.bytes))=some (some (.agg #[.string ByteArray.empty,.slice none 0 0,i64 0]),3,48):=ax
theorem kH.snoc {bs:List dK} {hh:Nat} {b:dK} (h: ∀j (hj:j<bs.length),kH bs[j] j hh) (hb:kH b bs.length hh): ∀j (hj:j<(bs++ [b]).length),kH (bs++ [b])[j] j hh:=by
 intro j hj;rw [List.length_append]at hj;simp only [List.length_cons,List.length_nil]at hj;by_cases q:j<bs.length
 .rw [List.getElem_append_left q];exact h j q
 .have e:j=bs.length:=ae
  subst e;rw [List.getElem_append_right bY];simp only [Nat.sub_self,List.getElem_cons_zero];exact hb
theorem MS {V W:World} {T R X D:Nat} {a:Option Addr} {c:Nat} {l:List Int} {cs:List Value} {x0:ay} {hh bc:Nat} {ba:Option Addr} {bs:List dK}
 (h:iQ V T R X D a c l cs x0 62 3 ba bc (gh bs) (bs.map λb=>(b.da,b.dc,b.cV)) [] W) (hm: ∀j (hj:j<bs.length),kH bs[j] j hh) (hl:bs.length<=16):
 CW V T R X a c l cs {x0 with ba:=ba,bc:=bc,aF:=bs} W:=by
 obtain ⟨ra,rc,xO,yx,Ju⟩:=h.own.recs aq;simp only [Value.slice.injEq,true_and]at xO;obtain ⟨rfl,rfl⟩:=xO;have E9:=h.lo;have ho: ∀q,jz {x0 with ba:=ba,bc:=bc,aF:=bs} q->jz x0 q\/ba=some q:=λq hq=>by rcases hq with e|e|e|e|e|e<;>first|exact .inr e|exact .inl (.inr (.inl e))|exact .inl (.inr (.inr (.inl e)))|exact .inl (.inr (.inr (.inr (.inl e))))|exact .inl (.inr (.inr (.inr (.inr (.inl e)))))|exact .inl (.inr (.inr (.inr (.inr (.inr e)))))
 have hJ:=mY h.cw.sep.off h.old (λq e=>(h.kq q e).1) ho;refine {h.cw with case':={h.cw.case' with aF:=yx,fE:=λb hb=> ?_},bl:={h.cw.bl with aF:=λp hp=> ?_,fE:=λb hb p hp=> ?_},sep:={h.cw.sep with ba:=jG.of h.own,off:={hJ with fE:=λb hb p hp=> ?_}}}
 .replace hb:b∈bs:=hb
  obtain ⟨j,hj,rfl⟩:=List.mem_iff_getElem.1 hb;have h1:=hm j hj;refine ⟨by rw [h1.name,mi 98 j ae];decide,(h.si _ (List.mem_map.2 ⟨_,hb,rfl⟩)).1,?_⟩;have:=h1.jF;unfold b_;omega
 .have:=h.kq p hp
  show X<p.block/\p.block<W.heap.size;omega
 .have h2:=(h.si _ (List.mem_map.2 ⟨_,hb,rfl⟩)).2 p hp
  exact ⟨h2.1,h2.2.1⟩
 .have h2:=(h.si _ (List.mem_map.2 ⟨_,hb,rfl⟩)).2 p hp
  exact h2.2.2.2.join ho h2.2.2.1
theorem ct.nil' (w:World) (m:Nat):ct w m none 0 []:=⟨bY,aq,λi hi=>absurd hi (Nat.not_lt_zero _)⟩
section
variable{P:Program} (w:World)
theorem gD {o:Oper} {a:Act} {Q:Exit->Act->World->Prop} {K:Act->World->Prop} (s x:Operand) (t:TypeId)
 (ho:o.op= .call {callee:= .builtin .append,args:= #[s,x],argTypes:= #[t,t]})
 (base:Nat) (e:TypeId) (z:Value) (size bytes:Nat) (ht:P.underlying t=some (.slice e)) (iR:(P.info? e).map (λi=>(i.zero,i.size,i.bytes))=some (some z,size,bytes)) (hzs:z.cells.size=size) (hsz:0<size)
 (v:Value) (n:Nat) (xs:List Value) (hs:a.eval s=v) (hown:w.ownsRow base e size v n xs)
 (b:Nat) (news:List Value) (hx:a.eval x= .slice (some ⟨b,0,none⟩) 1 1) (hl:news.length=size) (hnews:aT w b e news) (h1:news.all (·.oneCell')=true)
 (h63:n<=100) (hbytes:bytes<=1000) (hbase:base<=w.heap.size)
 (h: ∀v' w',Hid (w'.ownsRow base e size v' (n+1) (xs++news))->Hid (∀a0,Ext a0 w->a0.heap.size<=base->Ext a0 w')->Hid (∀k,k<w.heap.size->some k≠v.ownBlock->w'.heap[k]?=w.heap[k]?)->Hid (w.heap.size<=w'.heap.size)->Hid (v'.ownBlock=v.ownBlock\/ ∃g,v'.ownBlock=some g/\w.heap.size<=g)->K (a.put o.dst v') w'):Oper.wp P o a w K Q:=by
 obtain ⟨i,hi,hz,hsize,hby⟩:=info_parts iR;have hlt:=hown.lt;have hb:(n+1)*bytes<=140737488355328:=Nat.le_trans (Nat.mul_le_mul (show n+1<=1000 by omega) hbytes) aq;have vg:n+1<=maxLen:=by unfold maxLen;omega
 have nc: ∀j u,news[j]?=some u->w.cell? ((⟨b,0,none⟩:Addr).add j)=some u:=λj u hu=>by rw [fj,hnews.cell j];exact hu
 obtain ⟨v',w',hr,h2,h3,h4,h5⟩:=iT (P:=P) w base t o.type e i z size bytes ht hi hz hsize hby hzs hsz v n xs hown ⟨b,0,none⟩ 1 1 news (by rw [hl,Nat.one_mul]) nc (λu hu=>List.all_eq_true.1 h1 u hu) vg hb hbase;unfold Oper.wp execOp;simp only [ho,resolve,invoke,builtin,Sem.run_bind,Sem.run_pure,Result.andThen_ok,List.map_toArray,List.map_cons,List.map_nil,hs,hx,hr];refine (h v' w' h2 (λa0 ha hb0=>⟨ha.below.trans ⟨h3.os,h3.tape,h3.output,h3.size,λk hk=>h3.block k (bA ha.size) (λe'=>bA (hlt k e'.symm))⟩,Nat.le_trans ha.drawn h4⟩) h3.block h3.size h5)
end
theorem Tryz.info_line:(Tryz.prog.info? 66).map (λi=>(i.zero,i.size,i.bytes))=some (some (.agg mj.cells.toArray),12,120):=ax
theorem gT.snoc {l:List bn} {nb hh fr tb:Nat} {x:bn} (h:gT l nb hh) (hf:fr<nb) (ht:tb<nb) (hn:fr≠tb) (hx:qH x l.length fr tb hh):gT (l++ [x]) nb hh:=by
 intro j hj;rw [List.length_append]at hj;simp only [List.length_cons,List.length_nil]at hj;by_cases q:j<l.length
 .rw [List.getElem_append_left q];exact h j q
 .have e:j=l.length:=ae
  subst e;rw [List.getElem_append_right bY];simp only [Nat.sub_self,List.getElem_cons_zero];exact ⟨fr,tb,hf,ht,hn,hx⟩
theorem qH.wE {x:bn} {i fr tb:Nat} {h:Int} (m:qH x i fr tb h) (hi:i<16) (hf:fr<100) (ht:tb<100):x.name.size<=maxLen/\gO [x.dL,x.ld,x.rn,x.rd,x.uH,x.yt,x.vw,x.Bn,x.dO,x.kK]:=by
 have a1:=m.r;have a2:=m.s0;have a3:=m.s1;have a4:=m.dO;have a5:=m.kK
 refine ⟨by rw [m.name,mi 108 i hi];decide,?_⟩;intro z hz;simp only [List.mem_cons,List.not_mem_nil,or_false]at hz;rcases hz with rfl|rfl|rfl|rfl|rfl|rfl|rfl|rfl|rfl|rfl<;>(try rw [m.dL])<;>(try rw [m.ld])<;>unfold b_<;>omega
theorem iQ.addLine {V W W':World} {T R X D:Nat} {a:Option Addr} {c:Nat} {l:List Int} {cs:List Value} {x0:ay} {e:TypeId} {m:Nat} {ga:Option Addr} {gc:Nat} {rows:List (List Value)} {si:List (Option Addr×Nat×List Int)} {sr:List (Option Addr×Nat×Nat×List (List Value))}
 (h:iQ V T R X D a c l cs x0 e m ga gc rows si sr W) {b:Option Addr} {k:Nat} {z:List Int} (hT:bO W' T a c l) (hx:aB T W W') (hi:aS W' b k z) (hf:Fr W.heap.size b) (hb:z= []->b=none):iQ V T R X D a c l cs x0 e m ga gc rows (si++ [(b,k,z)]) sr W':=
 h.Gp hT hx hi hf λp hp=>by
  cases z with
  |nil=>rw [hb rfl]at hp;cases hp
  |cons u z=>
   obtain ⟨b3,o3,h4,h5⟩:=hi.cell 0 aG;rw [hp]at h4;cases h4
   exact cY h5
def kC (ls:List bn):List (Option Addr×Nat×List Int):=ls.map λx=>(x.aa,x.ac,x.away)
theorem Ap {V W w5:World} {T R X D:Nat} {a:Option Addr} {c:Nat} {l:List Int} {x0:ay} {ga:Option Addr} {gc:Nat} {ls:List bn} {x:bn} {v1:Value} {z0 z1 z2 z4 z5 z6 z7:Value}
 (h:iQ V T R X D a c l [z0,z1,z2,.slice ga ls.length gc,z4,z5,z6,z7] x0 66 12 ga gc (ls.map bn.cells) (kC ls++ [(x.aa,x.ac,x.away)]) [] W)
 (ho:w5.ownsRow D 66 12 v1 (ls.length+1) ((ls.map bn.cells).flatten++x.cells)) (he: ∀a0,Ext a0 W->a0.heap.size<=D->Ext a0 w5) (hb: ∀k,k<W.heap.size->some k≠Value.ownBlock (.slice ga ls.length gc)->w5.heap[k]?=W.heap[k]?) (hz:W.heap.size<=w5.heap.size)
 (hv:v1.ownBlock=Value.ownBlock (.slice ga ls.length gc)\/ ∃g,v1.ownBlock=some g/\W.heap.size<=g):
 ∃g2 k2,v1= .slice g2 (ls++ [x]).length k2/\w5.cell? ⟨X,3,none⟩=some (.slice ga ls.length gc)/\w5.cell? ⟨X,0,none⟩=some z0/\w5.frozen? ⟨X,3,none⟩=false/\
  iQ V T R X D a c l [z0,z1,z2,.slice g2 (ls++ [x]).length k2,z4,z5,z6,z7] x0 66 12 g2 k2 ((ls++ [x]).map bn.cells) (kC (ls++ [x])) [] (w5.setCell ⟨X,3,none⟩ (.slice g2 (ls++ [x]).length k2)):=by
 have hl0:(ls.map bn.cells).length=ls.length:=aG;obtain ⟨g2,k2,tB,P5,P6⟩:=h.push (r:=x.cells) (v1:=v1) 3 rfl (by rw [hl0];exact ho) he (by rw [hl0];exact hb) hz (by rw [hl0];exact hv);have hl:(ls++ [x]).length=ls.length+1:=aG;have hm:(ls++ [x]).map bn.cells=ls.map bn.cells++ [x.cells]:=aG;have hs:kC (ls++ [x])=kC ls++ [(x.aa,x.ac,x.away)]:=by simp [kC]
 rw [hl,hm,hs];rw [hl0]at tB P6;exact ⟨g2,k2,tB,P5.cw.cg.cell 3,P5.cw.cg.cell 0,P5.cw.cg.frozen 3,P6⟩
theorem Tryz.info_unit:(Tryz.prog.info? 55).map (λi=>(i.zero,i.size,i.bytes))=some (some (.agg kp.cells.toArray),22,216):=ax
theorem j7.snoc {l:List aP} {nb hh bu:Nat} {x:aP} (h:j7 l nb hh) (hb:bu<nb) (hx:uu x l.length bu hh):j7 (l++ [x]) nb hh:=by
 intro j hj;rw [List.length_append]at hj;simp only [List.length_cons,List.length_nil]at hj;by_cases q:j<l.length
 .rw [List.getElem_append_left q];exact h j q
 .have e:j=l.length:=ae
  subst e;rw [List.getElem_append_right bY];simp only [Nat.sub_self,List.getElem_cons_zero];exact ⟨bu,hb,hx⟩
theorem uu.wE {x:aP} {i bu hh:Nat} (m:uu x i bu (hh:Int)) (hi:i<16) (hf:bu<100):x.name.size<=maxLen/\(∀s∈x.aY,gO [s.width,s.bE])/\gO [x.fE,x.min,x.max,x.fF,x.fG,x.dA,x.cQ,x.dB,x.eK,x.dC,x.startTime,x.dX,x.dD,x.dE,x.aX,x.bR,x.state,x.hours,x.output]:=by
 have hs:=nU x.aY m.Kh;have a1:=m.min;have a2:=m.OE;have a3:=m.max;have a4:=m.fF;have a5:=m.fG;have a6:=m.dA;have a7:=m.cQ;have a8:=m.dB
 have b1:=m.eK;have b2:=m.dC;have b3:=m.startTime;have b4:=m.dX;have b5:=m.dD;have b6:=m.dE;have b7:=m.aX;have b8:=m.bR
 have d1:=m.state;have d2:=m.hours;have d0:=m.fE
 have d3:x.min<=x.output/\x.output<=x.max\/x.output=0:=by
  by_cases q:x.state=2
  .exact .inl (m.output.1 q)
  .exact .inr (m.output.2 q)
 refine ⟨by rw [m.name,mi 117 i hi];decide,λg hg=> ?_,?_⟩
 .have:=m.Kh g hg
  intro z hz;simp only [List.mem_cons,List.not_mem_nil,or_false]at hz;rcases hz with rfl|rfl<;>unfold b_<;>omega
 .intro z hz
  simp only [List.mem_cons,List.not_mem_nil,or_false]at hz;rcases hz with rfl|rfl|rfl|rfl|rfl|rfl|rfl|rfl|rfl|rfl|rfl|rfl|rfl|rfl|rfl|rfl|rfl|rfl|rfl<;>unfold b_<;>omega
theorem iQ.Pc {V W W':World} {T R X D:Nat} {a:Option Addr} {c:Nat} {l:List Int} {cs:List Value} {x0:ay} {e:TypeId} {m:Nat} {ga:Option Addr} {gc:Nat} {rows:List (List Value)} {si:List (Option Addr×Nat×List Int)} {sr:List (Option Addr×Nat×Nat×List (List Value))}
 (h:iQ V T R X D a c l cs x0 e m ga gc rows si sr W) {b b2:Option Addr} {k k2 n:Nat} {z:List Int} {z2:List (List Value)} (hT:bO W' T a c l) (hx:aB T W W') (hi:aS W' b k z) (hf:Fr W.heap.size b) (hb:z= []->b=none)
 (Qi:ct W' n b2 k2 z2) (hf2:Fr W.heap.size b2) (hb2: ∀p,b2=some p->p.block<W'.heap.size):iQ V T R X D a c l cs x0 e m ga gc rows (si++ [(b,k,z)]) (sr++ [(b2,k2,n,z2)]) W':=by
 have A:=h.addLine hT hx hi hf hb;have B:=h.acu hT hx Qi hf2 hb2;exact ⟨A.cw,A.own,A.si,B.sr,A.old,A.size,A.lo⟩
theorem Pd {w:World} {n:Nat} {b:Option Addr} {k:Nat} {z:List (List Value)} (h:ct w n b k z) (hz:0<z.length) (hn: ∀r∈z,0<r.length): ∀p,b=some p->p.block<w.heap.size:=by
 intro p hp;obtain ⟨b3,o3,h4,h5⟩:=h.cell 0 hz;rw [hp]at h4;cases h4
 have h6:=cY (h5 0 (hn _ (List.getElem_mem hz)));exact h6
def nV (us:List aP):List (Option Addr×Nat×List Int):=us.map λx=>(x.aa,x.ac,x.away)
def nW (us:List aP):List (Option Addr×Nat×Nat×List (List Value)):=us.map λx=>(x.sa,x.sc,2,x.aY.map dy.cells)
theorem JQ {V W w5:World} {T R X D:Nat} {a:Option Addr} {c:Nat} {l:List Int} {x0:ay} {ga:Option Addr} {gc:Nat} {us:List aP} {x:aP} {v1:Value} {z0 z1 z2 z3 z5 z6 z7:Value}
 (h:iQ V T R X D a c l [z0,z1,z2,z3,.slice ga us.length gc,z5,z6,z7] x0 55 22 ga gc (us.map aP.cells) (nV us++ [(x.aa,x.ac,x.away)]) (nW us++ [(x.sa,x.sc,2,x.aY.map dy.cells)]) W)
 (ho:w5.ownsRow D 55 22 v1 (us.length+1) ((us.map aP.cells).flatten++x.cells)) (he: ∀a0,Ext a0 W->a0.heap.size<=D->Ext a0 w5) (hb: ∀k,k<W.heap.size->some k≠Value.ownBlock (.slice ga us.length gc)->w5.heap[k]?=W.heap[k]?) (hz:W.heap.size<=w5.heap.size)
 (hv:v1.ownBlock=Value.ownBlock (.slice ga us.length gc)\/ ∃g,v1.ownBlock=some g/\W.heap.size<=g):
 ∃g2 k2,v1= .slice g2 (us++ [x]).length k2/\w5.cell? ⟨X,4,none⟩=some (.slice ga us.length gc)/\w5.cell? ⟨X,0,none⟩=some z0/\w5.frozen? ⟨X,4,none⟩=false/\
  iQ V T R X D a c l [z0,z1,z2,z3,.slice g2 (us++ [x]).length k2,z5,z6,z7] x0 55 22 g2 k2 ((us++ [x]).map aP.cells) (nV (us++ [x])) (nW (us++ [x])) (w5.setCell ⟨X,4,none⟩ (.slice g2 (us++ [x]).length k2)):=by
 have hl0:(us.map aP.cells).length=us.length:=aG;obtain ⟨g2,k2,tB,P5,P6⟩:=h.push (r:=x.cells) (v1:=v1) 4 rfl (by rw [hl0];exact ho) he (by rw [hl0];exact hb) hz (by rw [hl0];exact hv);have hl:(us++ [x]).length=us.length+1:=aG;have hm:(us++ [x]).map aP.cells=us.map aP.cells++ [x.cells]:=aG;have hs:nV (us++ [x])=nV us++ [(x.aa,x.ac,x.away)]:=by simp [nV]
 have hr:nW (us++ [x])=nW us++ [(x.sa,x.sc,2,x.aY.map dy.cells)]:=by simp [nW]
 rw [hl,hm,hs,hr];rw [hl0]at tB P6;exact ⟨g2,k2,tB,P5.cw.cg.cell 4,P5.cw.cg.cell 0,P5.cw.cg.frozen 4,P6⟩
theorem SM {fr yn nb tb:Nat} (h:fr<nb) (hy:yn+1<nb) (e:(fr+1+yn) % nb=tb):tb<nb/\fr≠tb:=by
 have h1:tb<nb:=by rw [<-e];exact Nat.mod_lt _ ae
 refine ⟨h1,?_⟩;by_cases q:fr+1+yn<nb
 .rw [Nat.mod_eq_of_lt q]at e;omega
 .rw [Nat.mod_eq_sub_mod ae,Nat.mod_eq_of_lt ae]at e;omega
def Cf:bW:=⟨{data:= #[]},0,0,0,0,0,0,0,0⟩
def SN:fp:=⟨{data:= #[]},0,none,0,[],none,0,[],none,0,[]⟩
theorem Tryz.info_store:(Tryz.prog.info? 70).map (λi=>(i.zero,i.size,i.bytes))=some (some (.agg Cf.cells.toArray),9,80):=ax
theorem Tryz.info_tie:(Tryz.prog.info? 72).map (λi=>(i.zero,i.size,i.bytes))=some (some (.agg SN.cells.toArray),5,96):=ax
theorem nT.wE {x:bW} {nb:Nat} (m:nT x nb) (hn:nb<=100):x.name.size<=maxLen/\gO [x.fE,x.capacity,x.initial,x.final,x.gN,x.discharge,x.en,x.ed]:=by
 have a1:=m.fE;have a2:=m.capacity;have a3:=m.initial;have a4:=m.final;have a5:=m.gN;have a6:=m.discharge;have a7:=m.eff
 refine ⟨by rw [m.name];decide,?_⟩;intro z hz;simp only [List.mem_cons,List.not_mem_nil,or_false]at hz;rcases hz with rfl|rfl|rfl|rfl|rfl|rfl|rfl|rfl<;>unfold b_<;>omega
theorem int_lt {w:World} {b:Option Addr} {k:Nat} {z:List Int} (h:aS w b k z) (hz:0<z.length): ∀p,b=some p->p.block<w.heap.size:=by
 intro p hp;obtain ⟨b3,o3,h4,h5⟩:=h.cell 0 hz;rw [hp]at h4;cases h4
 exact cY h5
theorem GC {V W w5:World} {T R X D:Nat} {a:Option Addr} {c:Nat} {l:List Int} {x0:ay} {x:bW} {v1:Value} {z0 z1 z2 z3 z4 z6 z7:Value}
 (h:iQ V T R X D a c l [z0,z1,z2,z3,z4,.slice none 0 0,z6,z7] x0 70 9 none 0 [] [] [] W) (hx:x.name.size<=maxLen/\gO [x.fE,x.capacity,x.initial,x.final,x.gN,x.discharge,x.en,x.ed])
 (ho:w5.ownsRow D 70 9 v1 1 x.cells) (he: ∀a0,Ext a0 W->a0.heap.size<=D->Ext a0 w5) (hb: ∀k,k<W.heap.size->some k≠Value.ownBlock (.slice none 0 0)->w5.heap[k]?=W.heap[k]?) (hz:W.heap.size<=w5.heap.size)
 (hv:v1.ownBlock=Value.ownBlock (.slice none 0 0)\/ ∃g,v1.ownBlock=some g/\W.heap.size<=g):
 ∃g2 k2,v1= .slice g2 1 k2/\w5.cell? ⟨X,5,none⟩=some (.slice none 0 0)/\w5.frozen? ⟨X,5,none⟩=false/\
  CW V T R X a c l [z0,z1,z2,z3,z4,.slice g2 1 k2,z6,z7] {x0 with sa:=g2,sc:=k2,stores:= [x]} (w5.setCell ⟨X,5,none⟩ (.slice g2 1 k2)):=by
 obtain ⟨g2,k2,tB,P5,P6⟩:=h.push (r:=x.cells) (v1:=v1) 5 rfl ho he hb hz hv;refine ⟨g2,k2,tB,P5.cw.cg.cell 5,P5.cw.cg.frozen 5,?_⟩;have P7:iQ V T R X D a c l [z0,z1,z2,z3,z4,.slice g2 1 k2,z6,z7] x0 70 9 g2 k2 [x.cells] [] [] (w5.setCell ⟨X,5,none⟩ (.slice g2 1 k2)):=P6;obtain ⟨ra,rc,xO,yx,Ju⟩:=P7.own.recs aq;simp only [Value.slice.injEq,true_and]at xO;obtain ⟨rfl,rfl⟩:=xO;have E9:=P7.lo;have ho: ∀q,jz {x0 with sa:=g2,sc:=k2,stores:= [x]} q->jz x0 q\/g2=some q:=λq hq=>by rcases hq with e|e|e|e|e|e<;>first|exact .inl (.inl e)|exact .inl (.inr (.inl e))|exact .inl (.inr (.inr (.inl e)))|exact .inr e|exact .inl (.inr (.inr (.inr (.inr (.inl e)))))|exact .inl (.inr (.inr (.inr (.inr (.inr e)))))
 have hJ:=mY P7.cw.sep.off P7.old (λq e=>(P7.kq q e).1) ho;refine {P7.cw with case':={P7.cw.case' with stores:=yx,store:=λb hb=> ?_},bl:={P7.cw.bl with stores:=λp hp=> ?_},sep:={P7.cw.sep with sa:=jG.of P7.own,off:={hJ with}}}
 .rw [List.mem_singleton]at hb;subst hb;exact hx
 .have:=P7.kq p hp
  show X<p.block/\p.block<(w5.setCell ⟨X,5,none⟩ (.slice g2 1 k2)).heap.size;omega
theorem MT {V W w5:World} {T R X D:Nat} {a:Option Addr} {c:Nat} {l:List Int} {x0:ay} {x:fp} {v1:Value} {z0 z1 z2 z3 z4 z5 z7:Value}
 (h:iQ V T R X D a c l [z0,z1,z2,z3,z4,z5,.slice none 0 0,z7] x0 72 5 none 0 [] [(x.ia,x.ic,x.imp),(x.ea,x.ec,x.exp),(x.pa,x.pc,x.bE)] [] W) (hx:x.name.size<=maxLen/\b_ x.fE)
 (ho:w5.ownsRow D 72 5 v1 1 x.cells) (he: ∀a0,Ext a0 W->a0.heap.size<=D->Ext a0 w5) (hb: ∀k,k<W.heap.size->some k≠Value.ownBlock (.slice none 0 0)->w5.heap[k]?=W.heap[k]?) (hz:W.heap.size<=w5.heap.size)
 (hv:v1.ownBlock=Value.ownBlock (.slice none 0 0)\/ ∃g,v1.ownBlock=some g/\W.heap.size<=g):
 ∃g2 k2,v1= .slice g2 1 k2/\w5.cell? ⟨X,6,none⟩=some (.slice none 0 0)/\w5.cell? ⟨X,0,none⟩=some z0/\w5.frozen? ⟨X,6,none⟩=false/\
  CW V T R X a c l [z0,z1,z2,z3,z4,z5,.slice g2 1 k2,z7] {x0 with ta:=g2,tc:=k2,bh:= [x]} (w5.setCell ⟨X,6,none⟩ (.slice g2 1 k2)):=by
 obtain ⟨g2,k2,tB,P5,P6⟩:=h.push (r:=x.cells) (v1:=v1) 6 rfl ho he hb hz hv;refine ⟨g2,k2,tB,P5.cw.cg.cell 6,P5.cw.cg.cell 0,P5.cw.cg.frozen 6,?_⟩;have P7:iQ V T R X D a c l [z0,z1,z2,z3,z4,z5,.slice g2 1 k2,z7] x0 72 5 g2 k2 [x.cells] [(x.ia,x.ic,x.imp),(x.ea,x.ec,x.exp),(x.pa,x.pc,x.bE)] [] (w5.setCell ⟨X,6,none⟩ (.slice g2 1 k2)):=P6;obtain ⟨ra,rc,xO,yx,Ju⟩:=P7.own.recs aq;simp only [Value.slice.injEq,true_and]at xO;obtain ⟨rfl,rfl⟩:=xO;have E9:=P7.lo;have s1:=P7.si (x.ia,x.ic,x.imp) aG;have s2:=P7.si (x.ea,x.ec,x.exp) aG;have s3:=P7.si (x.pa,x.pc,x.bE) aG;have ho: ∀q,jz {x0 with ta:=g2,tc:=k2,bh:= [x]} q->jz x0 q\/g2=some q:=λq hq=>by rcases hq with e|e|e|e|e|e<;>first|exact .inl (.inl e)|exact .inl (.inr (.inl e))|exact .inl (.inr (.inr (.inl e)))|exact .inl (.inr (.inr (.inr (.inl e))))|exact .inr e|exact .inl (.inr (.inr (.inr (.inr (.inr e)))))
 have hJ:=mY P7.cw.sep.off P7.old (λq e=>(P7.kq q e).1) ho;refine {P7.cw with case':={P7.cw.case' with bh:=yx,tie:=λb hb=> ?_},bl:={P7.cw.bl with bh:=λp hp=> ?_,tie:=λb hb=>⟨λp hp=> ?_,λp hp=> ?_,λp hp=> ?_⟩},sep:={P7.cw.sep with ta:=jG.of P7.own,off:={hJ with tie:=λb hb=>⟨λp hp=> ?_,λp hp=> ?_,λp hp=> ?_⟩}}}
 .rw [List.mem_singleton]at hb;subst hb;exact ⟨hx.1,s1.1,s2.1,s3.1,hx.2⟩
 .have:=P7.kq p hp
  show X<p.block/\p.block<(w5.setCell ⟨X,6,none⟩ (.slice g2 1 k2)).heap.size;omega
 .rw [List.mem_singleton]at hb;subst hb;have h2:=s1.2 p hp;exact ⟨h2.1,h2.2.1⟩
 .rw [List.mem_singleton]at hb;subst hb;have h2:=s2.2 p hp;exact ⟨h2.1,h2.2.1⟩
 .rw [List.mem_singleton]at hb;subst hb;have h2:=s3.2 p hp;exact ⟨h2.1,h2.2.1⟩
 .rw [List.mem_singleton]at hb;subst hb;have h2:=s1.2 p hp;exact h2.2.2.2.join ho h2.2.2.1
 .rw [List.mem_singleton]at hb;subst hb;have h2:=s2.2 p hp;exact h2.2.2.2.join ho h2.2.2.1
 .rw [List.mem_singleton]at hb;subst hb;have h2:=s3.2 p hp;exact h2.2.2.2.join ho h2.2.2.1
section
variable{P:Program} (w:World)
theorem px {o:Oper} {a:Act} {Q:Exit->Act->World->Prop} {K:Act->World->Prop} (s x:Operand) (t:TypeId)
 (ho:o.op= .call {callee:= .builtin .append,args:= #[s,x],argTypes:= #[t,t]})
 (base:Nat) (e:TypeId) (z:Value) (size bytes:Nat) (ht:P.underlying t=some (.slice e)) (iR:(P.info? e).map (λi=>(i.zero,i.size,i.bytes))=some (some z,size,bytes)) (hzs:z.cells.size=size) (hsz:0<size)
 (v:Value) (n:Nat) (xs:List Value) (hs:a.eval s=v) (hown:w.ownsRow base e size v n xs)
 (xa:Option Addr) (m c:Nat) (news:List Value) (hx:a.eval x= .slice xa m c) (hl:news.length=m*size) (hnews: ∀ad,xa=some ad-> ∀j u,news[j]?=some u->w.cell? (ad.add j)=some u) (h1: ∀u∈news,u.oneCell'=true)
 (hnil:xa=none->m=0/\c=0)
 (h63:n+m<=1000) (hbytes:bytes<=1000) (hbase:base<=w.heap.size)
 (h: ∀v' w',Hid (w'.ownsRow base e size v' (n+m) (xs++news))->Hid (∀a0,Ext a0 w->a0.heap.size<=base->Ext a0 w')->Hid (∀k,k<w.heap.size->some k≠v.ownBlock->w'.heap[k]?=w.heap[k]?)->Hid (w.heap.size<=w'.heap.size)->Hid (v'.ownBlock=v.ownBlock\/ ∃g,v'.ownBlock=some g/\w.heap.size<=g)->K (a.put o.dst v') w'):Oper.wp P o a w K Q:=by
 obtain ⟨i,hi,hz,hsize,hby⟩:=info_parts iR;have hlt:=hown.lt;have hb:(n+m)*bytes<=140737488355328:=Nat.le_trans (Nat.mul_le_mul h63 hbytes) aq;have vg:n+m<=maxLen:=by unfold maxLen;omega
 cases xa with
 |none=>
  obtain ⟨rfl,rfl⟩:=hnil rfl;have hn:news= []:=List.eq_nil_of_length_eq_zero (by simpa using hl);subst hn;have hrun:=run_append_owned_none (P:=P) (w:=w) base t o.type e i size ht hi v n xs hown;unfold Oper.wp;simp [execOp,ho,resolve,invoke,builtin,hs,hx,hrun,Result.andThen];exact h v w (ah (by simpa using hown)) (λ_ h _=>h) (λ_ _ _=>rfl) bY (.inl rfl)
 |some ad=>
  obtain ⟨v',w',hr,h2,h3,h4,h5⟩:=iT (P:=P) w base t o.type e i z size bytes ht hi hz hsize hby hzs hsz v n xs hown ad m c news hl (hnews ad rfl) h1 vg hb hbase;unfold Oper.wp execOp;simp only [ho,resolve,invoke,builtin,Sem.run_bind,Sem.run_pure,Result.andThen_ok,List.map_toArray,List.map_cons,List.map_nil,hs,hx,hr];refine (h v' w' h2 (λa0 ha hb0=>⟨ha.below.trans ⟨h3.os,h3.tape,h3.output,h3.size,λk hk=>h3.block k (bA ha.size) (λe'=>bA (hlt k e'.symm))⟩,Nat.le_trans ha.drawn h4⟩) h3.block h3.size h5)
end
theorem ownsRow_lit (w:World) (e:TypeId) (m:Nat):(w.alloc (.cells #[] e)).ownsRow w.heap.size e m (.slice (some ⟨w.heap.size,0,none⟩) 0 0) 0 []:=
 ⟨aG,.inr ⟨w.heap.size,0,#[],rfl,bY,by unfold World.alloc;simp,bY,aZ,aG,aG⟩⟩
theorem Tryz.info_outage:(Tryz.prog.info? 75).map (λi=>(i.zero,i.size,i.bytes))=some (some (.agg xP.cells.toArray),4,72):=ax
theorem qJ.snoc {l:List cJ} {nl nu:Nat} {x:cJ} (h:qJ l nl nu) (hx:Ag x l.length nl nu):qJ (l++ [x]) nl nu:=by
 intro j hj;rw [List.length_append]at hj;simp only [List.length_cons,List.length_nil]at hj;by_cases q:j<l.length
 .rw [List.getElem_append_left q];exact h j q
 .have e:j=l.length:=ae
  subst e;rw [List.getElem_append_right bY];simp only [Nat.sub_self,List.getElem_cons_zero];exact hx
theorem Ag.wE {x:cJ} {i nl nu:Nat} (m:Ag x i nl nu) (hi:i<16) (hn:nu<1000):x.name.size<=maxLen/\ ∀m∈x.moves,gO [m.unit,m.up,m.down]:=by
 refine ⟨by rw [m.name,mi 111 i hi];decide,λg hg=> ?_⟩;have:=m.moves.move g hg;intro z hz;simp only [List.mem_cons,List.not_mem_nil,or_false]at hz;rcases hz with rfl|rfl|rfl<;>unfold b_<;>omega
theorem ct.flat {w:World} {m:Nat} {a:Option Addr} {c:Nat} {rows:List (List Value)} (h:ct w m a c rows) (hm:0<m) (hl: ∀r∈rows,r.length=m): ∀ad,a=some ad-> ∀j u,rows.flatten[j]?=some u->w.cell? (ad.add j)=some u:=by
 intro ad ha j u hu;have hj:j<rows.flatten.length:=(List.getElem?_eq_some_iff.1 hu).1;rw [ki rows hl]at hj;have hi:j/m<rows.length:=Nat.div_lt_of_lt_mul (by rw [Nat.mul_comm];exact hj);obtain ⟨b,o,h1,h2⟩:=h.cell (j/m) hi;rw [ha]at h1;cases h1
 have hr:(rows[j/m]).length=m:=hl _ (List.getElem_mem hi);have hjm:j % m<(rows[j/m]).length:=by rw [hr];exact Nat.mod_lt _ hm
 have h3:=h2 (j % m) hjm;have h4:=xp rows hl (j/m) (j % m) hi (Nat.mod_lt _ hm);have h5:j/m*m+j % m=j:=by rw [Nat.mul_comm];exact Nat.div_add_mod j m
 rw [h5,hu,List.getElem?_eq_getElem hjm]at h4;have h6:(Addr.add ⟨b,o,none⟩ j)=⟨b,o+j,none⟩:=by unfold Addr.add;split<;>simp_all
 rw [h6,Option.some.inj h4,<-h3,Nat.add_assoc,h5]
def Er (os:List cJ):List (Option Addr×Nat×List Int):=os.map λx=>(x.la,x.lc,x.lines)
def Es (os:List cJ):List (Option Addr×Nat×Nat×List (List Value)):=os.map λx=>(x.ma,x.mc,3,x.moves.map cj.cells)
theorem MU {V W:World} {T R X D:Nat} {a:Option Addr} {c:Nat} {l:List Int} {cs:List Value} {x0:ay} {ga:Option Addr} {gc:Nat} {xs:List cJ}
 (h:iQ V T R X D a c l cs x0 75 4 ga gc (xs.map cJ.cells) (Er xs) (Es xs) W) (hm: ∀x∈xs,x.name.size<=maxLen/\ ∀m∈x.moves,gO [m.unit,m.up,m.down]):
 bm W {x0 with oa:=ga,oc:=gc,outs:=xs}/\cP (λb=>X<b/\b<W.heap.size) {x0 with oa:=ga,oc:=gc,outs:=xs}/\eE W {x0 with oa:=ga,oc:=gc,outs:=xs}:=by
 obtain ⟨ra,rc,xO,yx,Ju⟩:=h.own.recs aq;simp only [Value.slice.injEq,true_and]at xO;obtain ⟨rfl,rfl⟩:=xO;have E9:=h.lo;have hs:=λb (hb:b∈xs)=>h.si (b.la,b.lc,b.lines) (List.mem_map.2 ⟨b,hb,rfl⟩);have hr:=λb (hb:b∈xs)=>h.sr (b.ma,b.mc,3,b.moves.map cj.cells) (List.mem_map.2 ⟨b,hb,rfl⟩);have ho: ∀q,jz {x0 with oa:=ga,oc:=gc,outs:=xs} q->jz x0 q\/ga=some q:=λq hq=>by rcases hq with e|e|e|e|e|e<;>first|exact .inl (.inl e)|exact .inl (.inr (.inl e))|exact .inl (.inr (.inr (.inl e)))|exact .inl (.inr (.inr (.inr (.inl e))))|exact .inl (.inr (.inr (.inr (.inr (.inl e)))))|exact .inr e
 have hJ:=mY h.cw.sep.off h.old (λq e=>(h.kq q e).1) ho;refine ⟨{h.cw.case' with outs:=yx,o:=λb hb=>⟨(hm b hb).1,(hs b hb).1,(hr b hb).1,(hm b hb).2⟩},{h.cw.bl with outs:=λp hp=> ?_,o:=λb hb=>⟨λp hp=> ?_,λp hp=> ?_⟩},{h.cw.sep with oa:=jG.of h.own,off:={hJ with o:=λb hb=>⟨λp hp=> ?_,λp hp=> ?_⟩}}⟩
 .have:=h.kq p hp
  show X<p.block/\p.block<W.heap.size;omega
 .have h2:=(hs b hb).2 p hp;exact ⟨h2.1,h2.2.1⟩
 .have h2:=(hr b hb).2 p hp;exact ⟨h2.1,h2.2.1⟩
 .have h2:=(hs b hb).2 p hp;exact h2.2.2.2.join ho h2.2.2.1
 .have h2:=(hr b hb).2 p hp;exact h2.2.2.2.join ho h2.2.2.1
theorem CW.reset {V W W':World} {T R X:Nat} {a:Option Addr} {c:Nat} {l:List Int} {cs cs':List Value} {x x':ay} (h:CW V T R X a c l cs x W) (hA:aT W' X 32 cs') (hx:aB X W W') (hc:bm W x') (hb:cP (λb=>X<b/\b<W.heap.size) x') (hS:eE W x'):CW V T R X a c l cs' x' W':=by
 have hp:=h.pos;have hs:=hx.size;exact ⟨h.tape.but hx ae,hA,h.res.but hx ae,hx.ext h.ext ae,hc.but hx (hb.mono λb hb=>ae),hb.mono λb hb=>ae,h.pos,hS.but hx λq hq=>bA (hb.outer q hq)⟩
theorem iQ.SP {V W w5:World} {T R X D:Nat} {a:Option Addr} {c:Nat} {l:List Int} {cs:List Value} {x0:ay} {e:TypeId} {m:Nat} {ga:Option Addr} {gc:Nat} {rows rows':List (List Value)} {si:List (Option Addr×Nat×List Int)} {sr:List (Option Addr×Nat×Nat×List (List Value))}
 (h:iQ V T R X D a c l cs x0 e m ga gc rows si sr W) {v1:Value} (ho:aL w5 D e m v1 rows') (he: ∀a0,Ext a0 W->a0.heap.size<=D->Ext a0 w5) (hb: ∀k,k<W.heap.size->some k≠Value.ownBlock (.slice ga rows.length gc)->w5.heap[k]?=W.heap[k]?) (hz:W.heap.size<=w5.heap.size)
 (hv:v1.ownBlock=Value.ownBlock (.slice ga rows.length gc)\/ ∃g,v1.ownBlock=some g/\W.heap.size<=g):
 ∃g2 k2,v1= .slice g2 rows'.length k2/\iQ V T R X D a c l cs x0 e m g2 k2 rows' si sr w5:=by
 obtain ⟨g2,k2,rfl⟩:=jn ho.own;have E9:=h.lo;have hsz:=h.size
 obtain ⟨K,Sj,Mh,hKx⟩:=jP (base:=D) (v:= .slice ga rows.length gc) hsz (λk q=>(h.own.own.lt k q).1) he hb hz
 have SF:K=W.heap.size\/ ∃q,ga=some q/\q.block=K:=by
  rcases Mh with q|q
  .exact .inl q
  .cases ga with
   |none=>cases q
   |some q'=>exact .inr ⟨q',rfl,by have e2:some q'.block=some K:=q;cases e2;rfl⟩
 have Ek: ∀p:Addr,X<p.block/\p.block<W.heap.size/\(∀q,ga=some q->p.block≠q.block)/\fX x0 p.block->p.block≠K:=λp hp=>by
  rcases SF with q|⟨q,q1,q2⟩
  .omega
  .have:=hp.2.2.1 q q1;omega
 have hg2: ∀q,g2=some q->(∃q0,ga=some q0/\q.block=q0.block)\/W.heap.size<=q.block:=λq hq=>by
  subst hq;rcases hv with e1|⟨g,e1,e2⟩
  .cases ga with
   |none=>cases e1
   |some q'=>exact .inl ⟨q',rfl,by have e3:some q.block=some q'.block:=e1;exact Option.some.inj e3⟩
  .have e3:some q.block=some g:=e1
   cases e3;exact .inr e2
 have hs5:=hKx.size;refine ⟨g2,k2,rfl,h.cw.but hKx ae (h.old.mono λb hb=>ae),ho,λs hm=> ?_,λs hm=> ?_,h.old,ae,h.lo⟩
 .obtain ⟨h1,h2⟩:=h.si s hm
  refine ⟨h1.eH hKx (λp q=>Ek p (h2 p q)),λp q=> ?_⟩;have h3:=h2 p q;refine ⟨h3.1,ae,λq' hq'=> ?_,h3.2.2.2⟩;rcases hg2 q' hq' with⟨q0,h5,h6⟩|h5
  .have:=h3.2.2.1 q0 h5;omega
  .omega
 .obtain ⟨h1,h2⟩:=h.sr s hm
  refine ⟨h1.but hKx (λp q=>Ek p (h2 p q)),λp q=> ?_⟩;have h3:=h2 p q;refine ⟨h3.1,ae,λq' hq'=> ?_,h3.2.2.2⟩;rcases hg2 q' hq' with⟨q0,h5,h6⟩|h5
  .have:=h3.2.2.1 q0 h5;omega
  .omega
theorem Aq {V W:World} {T R X D:Nat} {a:Option Addr} {c:Nat} {l:List Int} {cs:List Value} {x0:ay} {x:cJ} (h:CW V T R X a c l cs x0 W) (hD:D<=W.heap.size) (old:cP (λb=>b<D) x0) (E9:X<D)
 (hi:aS W x.la x.lc x.lines) (hr:ct W 3 x.ma x.mc (x.moves.map cj.cells)) (hl: ∀p,x.la=some p->X<p.block/\p.block<D/\fX x0 p.block) (hm: ∀p,x.ma=some p->X<p.block/\p.block<D/\fX x0 p.block):
 iQ V T R X D a c l cs x0 75 4 (some ⟨W.heap.size,0,none⟩) 0 [] (Er (x0.outs++ [x])) (Es (x0.outs++ [x])) (W.alloc (.cells #[] 75)):=by
 have xa:=(Ext.refl W).alloc (.cells #[] 75);have hsz:(W.alloc (.cells #[] 75)).heap.size=W.heap.size+1:=aG;have ho:=ownsRow_lit W 75 4;refine ⟨h.grow xa,⟨⟨ho.1,?_⟩,λr hr=>by cases hr⟩,λs hs=> ?_,λs hs=> ?_,old,ae,E9⟩
 .rcases ho.2 with q|⟨g,cap,cur,hv,hb,rest⟩
  .cases q.1
  .exact .inr ⟨g,cap,cur,hv,by cases hv;exact hD,rest⟩
 .obtain ⟨o,ho,rfl⟩:=List.mem_map.1 hs
  rcases List.mem_append.1 ho with q|q
  .have h1:=(h.case'.o o q).2.1
   refine ⟨h1.ext xa,λp hp=> ?_⟩;have h2:=(h.bl.o o q).1 p hp;have h3:=(old.o o q).1 p hp
   exact ⟨h2.1,ae,λq' e=>by cases e;show p.block≠W.heap.size;omega,(h.sep.off.o o q).1 p hp⟩
  .rw [List.mem_singleton]at q;subst q
   refine ⟨hi.ext xa,λp hp=> ?_⟩;have h2:=hl p hp;exact ⟨h2.1,ae,λq' e=>by cases e;show p.block≠W.heap.size;omega,h2.2.2⟩
 .obtain ⟨o,ho,rfl⟩:=List.mem_map.1 hs
  rcases List.mem_append.1 ho with q|q
  .have h1:=(h.case'.o o q).2.2.1
   refine ⟨h1.ext xa,λp hp=> ?_⟩;have h2:=(h.bl.o o q).2 p hp;have h3:=(old.o o q).2 p hp
   exact ⟨h2.1,ae,λq' e=>by cases e;show p.block≠W.heap.size;omega,(h.sep.off.o o q).2 p hp⟩
  .rw [List.mem_singleton]at q;subst q
   refine ⟨hr.ext xa,λp hp=> ?_⟩;have h2:=hm p hp;exact ⟨h2.1,ae,λq' e=>by cases e;show p.block≠W.heap.size;omega,h2.2.2⟩
theorem MV {V W:World} {T R X D K j:Nat} {a:Option Addr} {c:Nat} {l:List Int} {cs:List Value} {x0:ay} {ga:Option Addr} {gc:Nat} {xs:List cJ} {v:Value}
 (h:iQ V T R X D a c l cs x0 75 4 ga gc (xs.map cJ.cells) (Er xs) (Es xs) W) (hm: ∀x∈xs,x.name.size<=maxLen/\ ∀m∈x.moves,gO [m.unit,m.up,m.down]) (hX:X<K) (hK:K<D) (old:cP (λb=>b≠K) x0) (ho: ∀x∈xs,eY (λb=>b≠K) x.la/\eY (λb=>b≠K) x.ma):
 CW V T R X a c l cs x0 (W.setCell ⟨K,j,none⟩ v)/\bm (W.setCell ⟨K,j,none⟩ v) {x0 with oa:=ga,oc:=gc,outs:=xs}/\cP (λb=>X<b/\b<(W.setCell ⟨K,j,none⟩ v).heap.size) {x0 with oa:=ga,oc:=gc,outs:=xs}/\eE (W.setCell ⟨K,j,none⟩ v) {x0 with oa:=ga,oc:=gc,outs:=xs}:=by
 have hd:=MU h hm;have hx:=((aB.refl K W).ez (o:=j) (v:=v));have hs:=hx.size
 have hO:eY (λb=>b≠K) ga:=λp hp=>by
  have:=h.kq p hp;show p.block≠K;omega
 have hB:cP (λb=>b≠K) {x0 with oa:=ga,oc:=gc,outs:=xs}:={old with outs:=hO,o:=ho};exact ⟨h.cw.but hx hX old,hd.1.but hx hB,hd.2.1.mono λb hb=>ae,hd.2.2.but hx hB.outer⟩
def fO:Nat->Code->Code
 |0,c=>c
 |n+1,.seq _ b=>fO n b
 |_+1,c=>c
noncomputable def Tryz.caseCode:Code:=(Tryz.f8).body.getD .skip
