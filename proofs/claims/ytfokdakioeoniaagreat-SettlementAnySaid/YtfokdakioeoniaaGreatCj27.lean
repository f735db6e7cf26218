/- Texts of the proof. -/
import Derived.Test.YtfokdakioeoniaaGreatCj26
set_option linter.all false
set_option maxHeartbeats 4000000
set_option maxRecDepth 100000
namespace Go.Proofs.YtfokdakioeoniaaGreat
open Go.Proofs.Tryz
open Go.RowKit
theorem OT (w0 V:World) (K:Nat) (e:Int) (x:cw) (idx:Int) (hK:w0.heap.size<=K) (hV:Ext w0 V) (hs:di w0 2 x.sa x.sc (x.bR.map iI.cells)) (U3: ∀g∈x.bR,lq [g.width,g.gm]) (h:FE V K e):
 Calls prog 209 #[.pointer (some ⟨K,0,none⟩),.agg x.cells.toArray,i64 idx] V λe' w'=>vS V K (rk e x) e' w':=DI w0 V K e x idx hK hV hs U3 h
def z_ (c:aq) (x:cw) (prev:List ByteArray) (e:Int):Int:=nd (nd (nd (nd (nd (tG (nd (nd (nd (nd (nd (nd (nd (nd (nd (nd (nd (nd (nd (rk (nd (nd (vT (nA e x.name prev) c x.fc) (cJ 0 1048576 [x.min]) 3) (cJ x.min 1048576 [x.max]) 3) x) (cJ 0 1048576 [x.mA]) 3) (cJ 0 1048576 [x.mB]) 3) (cJ 0 1048576 [x.iW]) 3) (cJ x.min x.max [x.gV]) 3) (cJ x.min x.max [x.iX]) 3) (cJ 0 24 [x.mC]) 3) (cJ 0 24 [x.iY]) 3) (cJ 0 24 [x.startTime]) 3) (cJ 0 1048576 [x.j_]) 3) (cJ 0 1048576 [x.iZ]) 3) (cJ 0 24 [x.ja]) 3) (cJ 0 1048576 [x.bC]) 3) (cJ 0 1048576 [x.ez]) 3) c x.away) (cJ 0 2 [x.state]) 12) ((x.state !=1)||decide (0<x.startTime)) 16) (cJ 1 48 [x.hours]) 3) ((x.state !=1)||decide (x.hours<=x.startTime)) 3) (if(x.state==2)=true then cJ x.min x.max [x.output]else(x.output==0)) 3
theorem OU (w0 V:World) (K:Nat) (c:aq) (e:Int) (i:Nat) (hi:i<c.ay.length) (hK:w0.heap.size<=K) (hV:Ext w0 V) (hc:bK w0 c) (hn:c.ay.length<=1000000) (h:FE V K e):
 Calls prog 119 #[.pointer (some ⟨K,0,none⟩),.agg (C8 c),i64 i] V λe' w'=>vS V K (z_ c c.ay[i] ((c.ay.take i).map cw.name) e) e' w':=by
 try unfold C8
 have hle:=hc.ay.le;have eI:=hc.ay.cap
 rw [List.length_map]at hle;have iR:=af (hc.unit c.ay[i] (List.getElem_mem hi));have l_:Hid (∃h:i<(c.ay.map cw.name).length,(c.ay.map cw.name)[i]=c.ay[i].name/\(c.ay.map cw.name).take i=(c.ay.take i).map cw.name):=⟨by simpa using hi,aX,by rw [List.map_take]⟩;have uX:Hid ((c.ay.map cw.name).length<=1000000):=by(show _<=_;rw [List.length_map];exact hn)
 generalize hx:c.ay[i]=x at iR l_⊢;generalize (c.ay.take i).map cw.name=prev at l_⊢;have zZ:=af hx;have HV:=af hV;have iL:=af hc;have HF:=af h;have eQ:=af hK;have lT:=af h.lt
 have mn:(0:Int)<=(i:Int):=ae;have mq:(i:Int)<(c.ay.length:Int):=ae;clear hc hV h hK hn hx;go_enter func119,ntmps119
 go_upto_region 1 with fail
 generalize hW:World.alloc _ _=W;obtain ⟨B,hB,x0,A⟩:=aI hW;rw [<-hB];have mP:B≠K:=dB lT.o;obtain ⟨b,o,ha,D⟩:=(iL.o.ay.ext (HV.o.trans x0)).adds i (by simpa using hi);rw [List.getElem_map,zZ.o]at D;have HD:=af D;clear D;have HI:=af (iR.o.2.2.2.2);have C:=A.cs;simp only [Cs,aq.cells,cw.cells,Nat.zero_add,Nat.add_zero,Nat.reduceAdd,and_true]at C;rw [ha]at C;clear hW hB ha;go_upto_region 2 with(first|(refine cT rfl 51 _ rfl ⟨b,o+i*22,none⟩ rfl x.cells _ HD.o underlying51 rfl aw ?_)|(refine aT rfl 51 _ _ rfl _ x.cells rfl rfl aw rfl rfl ?_))
 try simp only [Act.put]
 generalize hW1:World.alloc _ _=W1;obtain ⟨E,hE,x1,A1⟩:=aI hW1;rw [<-hE];have oY:E≠K:=ux lT.o x0.size;have F:=λY (e:aH K W1 Y)=>And.intro ((A.ext x1).gw e mP).cs (A1.gw e oY).cs;simp only [Cs,aq.cells,cw.cells,Nat.zero_add,Nat.add_zero,Nat.reduceAdd,and_true]at F;have X:=aH.refl K W1;have HX:=af ((x0.trans x1).but K);have kH:=af ((HV.o.trans x0).trans x1)
 replace HF:=af ((HF.o.ext x0).ext x1);have P:=FO;have oZ:=af A1;clear x0 A C hW1 hE x1 A1 HV lT zZ HD;go_wp2_with (first|((first|(go_at_call 114;refine (kJ w0 _ K c _ 3 i prev _ x.name (tJ c) ai l_.o uX.o eQ.o (X.ext kH.o eQ.o) iL.o iR.o.1 HF.o).mono ?_)|(go_at_call 206;refine (yN w0 _ K c _ _ _ _ _ (X.ext kH.o eQ.o) iL.o (HI.o _ aX) HF.o).mono ?_)|(go_at_call 116;refine (d_ _ K _ _ _ _ _ _ HF.o).mono ?_)|(go_at_call 208;refine (FU w0 _ K c _ _ _ _ _ _ _ eQ.o (X.ext kH.o eQ.o) iR.o.2.1 HF.o).mono ?_)|(go_at_call 209;refine (OT w0 _ K _ x _ eQ.o (X.ext kH.o eQ.o) iR.o.2.2.1 iR.o.2.2.2.1 HF.o).mono ?_));rintro e w ⟨rfl,hf,hx⟩;replace X:=X.trans hx;replace HF:=af hf;clear hx hf)|(go_at_call 117;generalize hU:World.alloc _ _=U;obtain ⟨G,hG,xU,AU⟩:=aI hU;rw [<-hG];refine (dH U _ _ (some ⟨G,0,none⟩) 1 [_] (AU.FM (HI.o _ aX))).mono ?_;rintro e _ ⟨rfl,rfl⟩;replace X:=X.trans (xU.but K);replace HF:=af (HF.o.ext xU);clear hU hG xU AU)|(go_at_call 207;refine (mX _ _ _ (HI.o _ aX) (HI.o _ aX)).mono ?_;rintro e w ⟨rfl,hx⟩;replace X:=X.trans (hx.but K);replace HF:=af (HF.o.ext hx);clear hx)|(refine XT ?_)|(refine cT rfl 51 _ rfl ⟨E,0,none⟩ rfl x.cells _ (oZ.o.gw X oY).adds underlying51 rfl aw ?_))
 all_goals exact bodyPost_end (v:= .tuple #[]) aw rfl ⟨rfl,by simpa [z_, *]using HF.o,HX.o.trans X⟩
section
variable{P:Program} (w:World)
theorem u_ {ops:Array Oper} {rest:List Oper} {o:Oper} {a:Act} {Q:Exit->Act->World->Prop} (hgd:o.guard=none) (s x:Operand) (t:TypeId)
 (ho:o.op= .call {callee:= .builtin .append,args:= #[s,x],argTypes:= #[t,t]})
 (base:Nat) (e:TypeId) (z:Value) (size bytes:Nat) (ht:P.underlying t=some (.slice e)) (kD:(P.info? e).map (λi=>(i.zero,i.size,i.bytes))=some (some z,size,bytes)) (hzs:z.cells.size=size) (hsz:0<size)
 (v:Value) (n:Nat) (xs:List Value) (hs:a.eval s=v) (hown:w.ownsRow base e size v n xs)
 (xa:Option Addr) (m c:Nat) (news:List Value) (hx:a.eval x= .slice xa m c) (hl:news.length=m*size) (hnews:0<m-> ∃ad,xa=some ad/\ ∀j u,news[j]?=some u->w.cell? (ad.add j)=some u) (h1: ∀u∈news,u.oneCell'=true)
 (hnil:xa=none->m=0/\c=0)
 (ER:n+m<=9223372036854775807) (hb:(n+m)*bytes<=140737488355328) (hbase:base<=w.heap.size)
 (h: ∀v' w',Hid (w'.ownsRow base e size v' (n+m) (xs++news))->Hid (∀a0,Ext a0 w->a0.heap.size<=base->Ext a0 w')->Hid (∀k,k<w.heap.size->some k≠v.ownBlock->w'.heap[k]?=w.heap[k]?)->Hid (w.heap.size<=w'.heap.size)->Hid (v'.ownBlock=v.ownBlock\/ ∃g,v'.ownBlock=some g/\w.heap.size<=g)->wpList P ops Q rest (a.put o.dst v') w'):wpList P ops Q (o::rest) a w:=by
 obtain ⟨i,hi,hz,hsize,hby⟩:=info_parts kD;have hlt:=hown.lt;have ER:n+m<=maxLen:=by unfold maxLen;omega
 cases xa with
 |none=>
  obtain ⟨rfl,rfl⟩:=hnil rfl;have hn:news= []:=List.eq_nil_of_length_eq_zero (by simpa using hl);subst hn;refine wpList_append_own_none hgd s x t ho base e i size ht hi v n xs hs hown hx ?_;exact h v w (af (by simpa using hown)) (λ_ h _=>h) (λ_ _ _=>rfl) cG (.inl rfl)
 |some ad=>
  have tQ: ∀j u,news[j]?=some u->w.cell? (ad.add j)=some u:=by
   intro j u hu;by_cases hm:0<m
   .obtain ⟨ad',e',hh⟩:=hnews hm;cases e';exact hh j u hu
   .have:news= []:=List.eq_nil_of_length_eq_zero (by rw [hl];have:m=0:=ae
                                                     simp [this])
    rw [this]at hu;simp at hu
  refine wpList_plain hgd λK hK=> ?_;obtain ⟨v',w',hr,h2,h3,h4,h5⟩:=oF (P:=P) w base t o.type e i z size bytes ht hi hz hsize hby hzs hsz v n xs hown ad m c news hl tQ h1 ER hb hbase;unfold Oper.wp execOp;simp only [ho,resolve,invoke,builtin,Sem.run_bind,Sem.run_pure,Result.andThen_ok,List.map_toArray,List.map_cons,List.map_nil,hs,hx,hr];refine hK _ _ (h v' w' h2 (λa0 ha hb0=>⟨ha.below.trans ⟨h3.os,h3.tape,h3.output,h3.size,λk hk=>h3.block k (dB ha.size) (λe'=>dB (hlt k e'.symm))⟩,Nat.le_trans ha.drawn h4⟩) h3.block h3.size h5)
end
theorem bV.Aa {w:World} {a:Option Addr} {c:Nat} {l:List Int} (h:di w 1 a c (l.map λx=> [i64 x])) (hl:lq l):bV w a c l:=
 ⟨by have:=h.le;rw [List.length_map]at this;exact this,h.cap,λi hi=>by
   obtain ⟨b,o,ha,hc⟩:=h.cell i (by simpa using hi);refine ⟨b,o,ha,?_⟩;have:=hc 0 aX;simpa using this,λi hi=>by
   have:=hl l[i] (List.getElem_mem hi);unfold dx at this;omega⟩
theorem bV.two (W:World) (x y:Int) (hx:dx x) (hy:dx y):bV (W.alloc (.cells #[i64 x,i64 y] 3)) (some ⟨W.heap.size,0,none⟩) 2 [x,y]:=
 ⟨aX,ae,λi hi=>⟨W.heap.size,0,rfl,by
   have h0:i=0\/i=1:=by simp at hi;omega
   rcases h0 with h0|h0<;>subst h0
   .exact (aY.alloc W 3 [i64 x,i64 y]).cell 0
   .exact (aY.alloc W 3 [i64 x,i64 y]).cell 1⟩,λi hi=>by
   have h0:i=0\/i=1:=by simp at hi;omega
   unfold dx at hx hy;rcases h0 with h0|h0<;>subst h0<;>simp<;>omega⟩
theorem ab6 (W:World) (x y lo hi:Int) (hx:dx x) (hy:dx y):
 Calls prog 117 #[i64 lo,i64 hi,.slice (some ⟨W.heap.size,0,none⟩) 2 2] (W.alloc (.cells #[i64 x,i64 y] 3)) λe w'=>e= .returned (.bool (cJ lo hi [x,y]))/\w'=W.alloc (.cells #[i64 x,i64 y] 3):=
 dH _ lo hi _ 2 [x,y] (bV.two W x y hx hy)
theorem Cu {n:Nat} (h:n<=9223372036854775807):dx (n:Int):=by unfold dx;omega
def Ab (m:cH):Bool:=cJ 0 1048576 [m.up,m.down]
theorem I2 (l:List cH) (i:Nat) (h:i<l.length):(l.take (i+1)).all Ab=((l.take i).all Ab&&Ab l[i]):=by
 rw [List.take_succ_eq_append_getElem h,List.all_append];simp
theorem bV.gw {w w':World} {a:Option Addr} {c K:Nat} {l:List Int} (h:bV w a c l) (x:aH K w w') (hb: ∀p,a=some p->p.block≠K):bV w' a c l:=
 ⟨h.le,h.cap,λi hi=>by
   obtain ⟨b,o,ha,hc⟩:=h.cell i hi;exact ⟨b,o,ha,g_ hc x (show b≠K from hb _ ha)⟩,h.Zz⟩
def pS (c:aq) (x:ee) (prev:List ByteArray) (e:Int):Int:=nd (nd (nd (nd (nd (nd (nd (nd (nA e x.name prev) (cJ 1 2 [(x.lines.length:Int)]) 4) (cJ 0 ((c.lines.length:Int)-1) x.lines) 12) (lr x.lines) 11) (x.bY||decide (x.moves.length=0)) 16) (decide ((x.moves.length:Int)<=16)) 8) (cJ 0 ((c.ay.length:Int)-1) (x.moves.map cH.unit)) 12) (lr (x.moves.map cH.unit)) 11) (x.moves.all Ab) 3
structure DK (W0:World) (l:List Int) (i:Nat) (v:Value) (w:World):Prop where
 own:cj w W0.heap.size 3 1 v ((l.take i).map λz=> [i64 z])
 ext:Ext W0 w
theorem DK.push {W0 w:World} {l:List Int} {i:Nat} {v:Value} (h:DK W0 l i v w) (hlt:i<l.length) (hn:l.length<=5900000000000) {ops:Array Oper} {rest:List Oper} {o:Oper} {a:Act} {Q:Exit->Act->World->Prop} (s x:Operand) (hgd:o.guard=none) (ho:o.op= .call {callee:= .builtin .append,args:= #[s,x],argTypes:= #[22,22]})
 (hs:a.eval s=v) (hx:a.eval x= .slice (some ⟨w.heap.size,0,none⟩) 1 1) (k: ∀v' w',DK W0 l (i+1) v' w'->wpList prog ops Q rest (a.put o.dst v') w'):wpList prog ops Q (o::rest) a (w.alloc (.cells #[i64 l[i]] 3)):=by
 have hl:((l.take i).map λz=> [i64 z]).length=i:=by simp;omega
 have hw:=h.own.own;rw [hl]at hw;refine u_ _ hgd s x 22 ho W0.heap.size 3 (.int .i64 0) 1 8 underlying22 Tryz.info_int rfl ai v i _ hs (fg hw (ah.alloc _)) (some ⟨w.heap.size,0,none⟩) 1 1 [i64 l[i]] hx rfl (λ_=>⟨_,rfl,kY w 3 [i64 l[i]]⟩) (λu hu=>by rw [List.mem_singleton]at hu;subst hu;rfl) (λe=>by cases e) ae ae (Nat.le_trans h.ext.size ((Ext.refl w).alloc _).size) ?_;intro v1 w5 ho he hb hz hv;have yO:=h.own.snoc (w':=w5) (v':=v1) (r:= [i64 l[i]]) rfl (by rw [hl];exact ho.o);refine k v1 w5 ⟨?_,he.o W0 (h.ext.alloc _) cG⟩;rw [List.take_succ_eq_append_getElem hlt,List.map_append];exact yO
theorem DK.done {W0 w:World} {l:List Int} {v:Value} (h:DK W0 l l.length v w) (hl:lq l): ∃a cap,v= .slice a l.length cap/\bV w a cap l/\Fr W0.heap.size a:=by
 obtain ⟨a,cap,e,hS,hF⟩:=h.own.recs ai;rw [List.take_length]at hS e;exact ⟨a,cap,by rw [e,List.length_map],bV.Aa hS hl,hF⟩
theorem I3 (w0 V:World) (K:Nat) (c:aq) (e:Int) (i:Nat) (hi:i<c.outs.length) (hK:w0.heap.size<=K) (hV:Ext w0 V) (hc:bK w0 c) (hn:c.outs.length<=1000000) (ur: ∀o∈c.outs,o.moves.length<=5900000000000) (h:FE V K e):
 Calls prog 122 #[.pointer (some ⟨K,0,none⟩),.agg (C8 c),i64 i] V λe' w'=>vS V K (pS c c.outs[i] ((c.outs.take i).map ee.name) e) e' w':=by
 try unfold C8
 have hle:=hc.outs.le;have eI:=hc.outs.cap
 have BS:=hc.lines.le;have hl2:=hc.lines.cap;have hu1:=hc.ay.le;have hu2:=hc.ay.cap
 rw [List.length_map]at hle BS hu1;have OV:c.lines.length<=9223372036854775807:=Nat.le_trans BS hl2;have X5:c.ay.length<=9223372036854775807:=Nat.le_trans hu1 hu2;have hwl:IntKind.i64.wrap ((c.lines.length:Int)-1)=(c.lines.length:Int)-1:=nY;have hwu:IntKind.i64.wrap ((c.ay.length:Int)-1)=(c.ay.length:Int)-1:=nY;have iR:=af (hc.o c.outs[i] (List.getElem_mem hi));have HMS:=af (ur _ (List.getElem_mem hi));have l_:Hid (∃h:i<(c.outs.map ee.name).length,(c.outs.map ee.name)[i]=c.outs[i].name/\(c.outs.map ee.name).take i=(c.outs.take i).map ee.name):=⟨by simpa using hi,aX,by rw [List.map_take]⟩;have uX:Hid ((c.outs.map ee.name).length<=1000000):=by(show _<=_;rw [List.length_map];exact hn)
 generalize hx:c.outs[i]=x at iR l_ HMS⊢;generalize (c.outs.take i).map ee.name=prev at l_⊢;have zZ:=af hx;have HV:=af hV;have iL:=af hc;have HF:=af h;have eQ:=af hK;have lT:=af h.lt
 have mn:(0:Int)<=(i:Int):=ae;have mq:(i:Int)<(c.outs.length:Int):=ae;have Qi:x.lines.length<=9223372036854775807:=Nat.le_trans iR.o.2.1.le iR.o.2.1.cap;have hmn:x.moves.length<=9223372036854775807:=Nat.le_trans HMS.o ai;have HIL:=af (Cu Qi)
 have HUI:Hid (lq (x.moves.map cH.unit)):=λz hz=>by
  obtain ⟨m,hm,rfl⟩:=List.mem_map.1 hz;exact iR.o.2.2.2 m hm m.unit aX
 clear hc hV h hK hn hx ur BS hl2 hu1 hu2;go_enter func122,ntmps122
 go_upto_region 1 with fail
 generalize hW:World.alloc _ _=W;obtain ⟨B,hB,x0,A⟩:=aI hW;rw [<-hB];have mP:B≠K:=dB lT.o;obtain ⟨b,o,ha,D⟩:=(iL.o.outs.ext (HV.o.trans x0)).cs i hi;rw [zZ.o]at D;have C:=A.cs;simp only [Cs,aq.cells,ee.cells,Nat.zero_add,Nat.add_zero,Nat.reduceAdd,and_true]at D C;rw [ha]at C;clear hW hB ha;go_upto_region 2 with fail
 generalize hW1:World.alloc _ _=W1;obtain ⟨E,hE,x1,A1⟩:=aI hW1;rw [<-hE];have oY:E≠K:=ux lT.o x0.size;have F:=λY (e:aH K W1 Y)=>And.intro ((A.ext x1).gw e mP).cs (A1.gw e oY).cs;simp only [Cs,aq.cells,ee.cells,Nat.zero_add,Nat.add_zero,Nat.reduceAdd,and_true]at F;have X:=aH.refl K W1;have HX:=af ((x0.trans x1).but K);have kH:=af ((HV.o.trans x0).trans x1)
 replace HF:=af ((HF.o.ext x0).ext x1);clear x0 A C D hW1 hE x1 A1 HV lT zZ;go_upto_region 6 with(first|((first|(go_at_call 114;refine (kJ w0 _ K c _ 6 i prev _ x.name (kI c) ai l_.o uX.o eQ.o (X.ext kH.o eQ.o) iL.o iR.o.1 HF.o).mono ?_)|(go_at_call 116;refine (d_ _ K _ _ _ _ _ _ HF.o).mono ?_));rintro e w ⟨rfl,hf,hx⟩;replace X:=X.trans hx;replace HF:=af hf;clear hx hf)|(go_at_call 117;generalize hU:World.alloc _ _=U;obtain ⟨G,hG,xU,AU⟩:=aI hU;rw [<-hG];refine (dH U _ _ (some ⟨G,0,none⟩) 1 [_] (AU.FM HIL.o)).mono ?_;rintro e _ ⟨rfl,rfl⟩;replace X:=X.trans (xU.but K);replace HF:=af (HF.o.ext xU);clear hU hG xU AU)|(go_at_call 117;refine (dH _ _ _ x.la x.lc x.lines (iR.o.2.1.ext (X.ext kH.o eQ.o))).mono ?_;rintro e _ ⟨rfl,rfl⟩)|(go_at_call 210;refine (nz _ x.la x.lc x.lines (iR.o.2.1.ext (X.ext kH.o eQ.o))).mono ?_;rintro e w ⟨rfl,hx⟩;replace X:=X.trans (hx.but K);replace HF:=af (HF.o.ext hx);clear hx))
 obtain ⟨e5,U7⟩: ∃e5,Hid (e5=nd (nd (nd (nA e x.name prev) (cJ 1 2 [(x.lines.length:Int)]) 4) (cJ 0 ((c.lines.length:Int)-1) x.lines) 12) (lr x.lines) 11):=⟨_,rfl⟩;rw [<-U7.o]at HF;go_cut [] (λwx=>aH K W1 wx/\FE wx K (nd e5 (x.bY||decide (x.moves.length=0)) 16))
 case first=>
  as_aux_lemma=>
   have hz:((x.moves.length:Int)==0)=decide (x.moves.length=0):=by rw [Bool.eq_iff_iff];simp
   rcases Bool.eq_false_or_eq_true x.bY with hp|hp;all_goals go_wp2_with (first|((first|(go_at_call 114;refine (kJ w0 _ K c _ 6 i prev _ x.name (kI c) ai l_.o uX.o eQ.o (X.ext kH.o eQ.o) iL.o iR.o.1 HF.o).mono ?_)|(go_at_call 116;refine (d_ _ K _ _ _ _ _ _ HF.o).mono ?_));rintro e w ⟨rfl,hf,hx⟩;replace X:=X.trans hx;replace HF:=af hf;clear hx hf)|(go_at_call 117;generalize hU:World.alloc _ _=U;obtain ⟨G,hG,xU,AU⟩:=aI hU;rw [<-hG];refine (dH U _ _ (some ⟨G,0,none⟩) 1 [_] (AU.FM HIL.o)).mono ?_;rintro e _ ⟨rfl,rfl⟩;replace X:=X.trans (xU.but K);replace HF:=af (HF.o.ext xU);clear hU hG xU AU)|(go_at_call 117;refine (dH _ _ _ x.la x.lc x.lines (iR.o.2.1.ext (X.ext kH.o eQ.o))).mono ?_;rintro e _ ⟨rfl,rfl⟩)|(go_at_call 210;refine (nz _ x.la x.lc x.lines (iR.o.2.1.ext (X.ext kH.o eQ.o))).mono ?_;rintro e w ⟨rfl,hx⟩;replace X:=X.trans (hx.but K);replace HF:=af (HF.o.ext hx);clear hx))
   all_goals go_meet
   .exact ⟨X,by rw [hp];simpa using HF.o⟩
   .exact ⟨X,by rw [hp];simpa using HF.o⟩
 case rest=>
  replace X:=hcut.1;replace HF:=af hcut.2;clear hcut;generalize wc=W6 at*;go_upto_region 8 with(first|((first|(go_at_call 114;refine (kJ w0 _ K c _ 6 i prev _ x.name (kI c) ai l_.o uX.o eQ.o (X.ext kH.o eQ.o) iL.o iR.o.1 HF.o).mono ?_)|(go_at_call 116;refine (d_ _ K _ _ _ _ _ _ HF.o).mono ?_));rintro e w ⟨rfl,hf,hx⟩;replace X:=X.trans hx;replace HF:=af hf;clear hx hf)|(go_at_call 117;generalize hU:World.alloc _ _=U;obtain ⟨G,hG,xU,AU⟩:=aI hU;rw [<-hG];refine (dH U _ _ (some ⟨G,0,none⟩) 1 [_] (AU.FM HIL.o)).mono ?_;rintro e _ ⟨rfl,rfl⟩;replace X:=X.trans (xU.but K);replace HF:=af (HF.o.ext xU);clear hU hG xU AU)|(go_at_call 117;refine (dH _ _ _ x.la x.lc x.lines (iR.o.2.1.ext (X.ext kH.o eQ.o))).mono ?_;rintro e _ ⟨rfl,rfl⟩)|(go_at_call 210;refine (nz _ x.la x.lc x.lines (iR.o.2.1.ext (X.ext kH.o eQ.o))).mono ?_;rintro e w ⟨rfl,hx⟩;replace X:=X.trans (hx.but K);replace HF:=af (HF.o.ext hx);clear hx))
  obtain ⟨e7,U8⟩: ∃e7,Hid (e7=nd (nd e5 (x.bY||decide (x.moves.length=0)) 16) (decide ((x.moves.length:Int)<=16)) 8):=⟨_,rfl⟩;rw [<-U8.o]at HF;go_cut [8] (λv wx=>v= .slice none 0 0/\aH K W1 wx/\FE wx K e7)
  case first=>
   go_wp2
   go_meet
   exact ⟨rfl,X,HF.o⟩
  case rest=>
  obtain ⟨rfl,X,hF⟩:=hcut;replace HF:=af hF;clear hF;generalize wc=W8 at*;obtain ⟨us,HUS⟩: ∃us:List Int,Hid (us=x.moves.map cH.unit):=⟨_,rfl⟩;have Ro:Hid (us.length=x.moves.length):=by(show _=_;rw [HUS.o,List.length_map])
  rw [<-HUS.o]at HUI;go_wp2
  go_loopw [8,73] (λv ii wr=> ∃i:Nat,i<=x.moves.length/\DK W8 us i v wr/\ii= .int .i64 i) (λ_ ii _=>x.moves.length-(intOf ii).toNat)
  case atStart=>exact ⟨0,bm,⟨cj.nil _ _ _ _,ah⟩,rfl⟩
  case round=>
   obtain ⟨j,hj,hI,rfl⟩:=hrel;have HI:=af hI;clear hI;have X9:=X.trans (HI.o.ext.but K);by_cases hlt:j<x.moves.length
   .obtain ⟨b,o,ha,D⟩:=(iR.o.2.2.1.ext (X9.ext kH.o eQ.o)).cs j hlt
    replace D:=Bv D;rw [ha];have UT:(0:Int)<=(j:Int):=ae;have UU:(j:Int)<(x.moves.length:Int):=ae;clear F ha;go_upto_region 12 with fail
    generalize hW2:World.alloc _ _=W2;obtain ⟨M,hM,x2,A2⟩:=aI hW2;rw [<-hM];have dK:Hid (DK W8 us j u8 W2):=⟨HI.o.own.ext x2,HI.o.ext.trans x2⟩;have HLJ:Hid (j<us.length):=by(show _<_;rw [Ro.o];exact hlt)
    have KM:=A2.cs;replace KM:=Bv KM;have e1:x.moves[j].unit=us[j]'HLJ.o:=by simp only [HUS.o,List.getElem_map]
    rw [e1]at KM;clear e1 D hW2 hM x2 A2;go_wp2_with (at_builtin;refine dK.o.push HLJ.o (by rw [Ro.o];exact HMS.o) (.tmp 77) (.tmp 80) rfl rfl rfl rfl ?_;intro v1 w5 uq)
    exact ⟨⟨j+1,hlt,uq,bq⟩,bz⟩
   .obtain rfl:j=x.moves.length:=ae
    have kW:Hid (DK W8 us us.length u8 wr):=by(show DK _ _ _ _ _;rw [Ro.o];exact HI.o)
    obtain ⟨ua,uc,rfl,hUI,kV⟩:=kW.o.done HUI.o
    have OW:Hid (∀p,ua=some p->p.block≠K):=λp hp=>by
     have h1:=kV p hp;have h2:=HF.o.lt
     omega
    replace HF:=af (HF.o.ext HI.o.ext);have HU2:=af (λY (e:aH K wr Y)=>hUI.gw e OW.o);have X0:=aH.refl K wr;have F2:=λY (e:aH K wr Y)=>F Y (X9.trans e);clear hUI kV HI kW X hlt hj;go_upto_region 16 with(first|((first|(go_at_call 114;refine (kJ w0 _ K c _ 6 i prev _ x.name (kI c) ai l_.o uX.o eQ.o (X.ext kH.o eQ.o) iL.o iR.o.1 HF.o).mono ?_)|(go_at_call 116;refine (d_ _ K _ _ _ _ _ _ HF.o).mono ?_));rintro e w ⟨rfl,hf,hx⟩;replace X0:=X0.trans hx;replace HF:=af hf;clear hx hf)|(go_at_call 117;generalize hU:World.alloc _ _=U;obtain ⟨G,hG,xU,AU⟩:=aI hU;rw [<-hG];refine (dH U _ _ (some ⟨G,0,none⟩) 1 [_] (AU.FM HIL.o)).mono ?_;rintro e _ ⟨rfl,rfl⟩;replace X0:=X0.trans (xU.but K);replace HF:=af (HF.o.ext xU);clear hU hG xU AU)|(go_at_call 117;refine (dH _ _ _ ua uc _ (HU2.o _ X0)).mono ?_;rintro e _ ⟨rfl,rfl⟩)|(go_at_call 210;refine (nz _ ua uc _ (HU2.o _ X0)).mono ?_;rintro e w ⟨rfl,hx⟩;replace X0:=X0.trans (hx.but K);replace HF:=af (HF.o.ext hx);clear hx))
    obtain ⟨e9,HQ9⟩: ∃e9,Hid (e9=nd (nd e7 (cJ 0 ((c.ay.length:Int)-1) us) 12) (lr us) 11):=⟨_,rfl⟩;rw [<-HQ9.o]at HF;replace X:=X9.trans X0;clear X0 F2 HU2 OW X9;go_wp2
    go_loopw [102] (λii wr=> ∃j:Nat,j<=x.moves.length/\FE wr K (nd e9 ((x.moves.take j).all Ab) 3)/\aH K W1 wr/\ii= .int .i64 j) (λii _=>x.moves.length-(intOf ii).toNat)
    case atStart=>exact ⟨0,bm,by simpa [jK]using HF.o,X,rfl⟩
    case round=>
     clear HF X;obtain ⟨j,hj,hF,X,rfl⟩:=hrel;have HF:=af hF;clear hF;by_cases hlt:j<x.moves.length
     .obtain ⟨b,o,ha,D⟩:=(iR.o.2.2.1.ext (X.ext kH.o eQ.o)).cs j hlt
      replace D:=Bv D;rw [ha];have UT:(0:Int)<=(j:Int):=ae;have UU:(j:Int)<(x.moves.length:Int):=ae;have HT:=af (I2 x.moves j hlt);have OO:=iR.o.2.2.2 x.moves[j] (List.getElem_mem hlt);generalize (x.moves.take j).all Ab=q at*;have ab_:=af (OO x.moves[j].up aX);have ab':=af (OO x.moves[j].down aX)
      have Hw:=af (qj e9 q (Ab x.moves[j]) 3 ai);generalize x.moves[j]=g at*;clear OO ha;go_upto_region 19 with fail
      generalize hW2:World.alloc _ _=W2;obtain ⟨M,hM,x2,A2⟩:=aI hW2;rw [<-hM];have KM:=A2.cs;replace KM:=Bv KM;have Qg:=af (HF.o.ext x2);have kz:=af (X.trans (x2.but K))
      clear D hW2 hM x2 A2 X HF;go_wp2_with fail
      refine (ab6 W2 g.up g.down 0 1048576 ab_.o ab'.o).mono ?_;rintro e6 w1 ⟨rfl,rfl⟩;go_wp2_with fail
      refine (d_ _ K _ _ _ _ _ _ (Qg.o.alloc _)).mono ?_;rintro e6 W4 ⟨rfl,OI,gW⟩;have S':=af OI;have uu:Hid (aH K W1 W4):=(kz.o.alloc' _).trans gW;clear OI gW KM;go_wp2
      exact ⟨⟨j+1,hlt,by rw [HT.o,<-Hw.o];exact S'.o,uu.o,bq⟩,bz⟩
     .obtain rfl:j=x.moves.length:=ae
      rw [List.take_length]at HF;go_wp2
      exact bodyPost_end (v:= .tuple #[]) aw rfl ⟨rfl,by unfold pS;rw [<-HUS.o,<-U7.o,<-U8.o,<-HQ9.o];exact HF.o,HX.o.trans X⟩
structure kU (c:aq):Prop where
 ar:c.ar.length<=1000000
 lines:c.lines.length<=1000000
 ay:c.ay.length<=1000000
 stores:c.stores.length<=1000000
 bF:c.bF.length<=1000000
 outs:c.outs.length<=1000000
 moves: ∀o∈c.outs,o.moves.length<=5900000000000
theorem kU.names {c:aq} (h:kU c) (k:Int):(fo c k).length<=1000000:=by
 unfold fo;have h1:=h.ar;have h2:=h.lines;have h3:=h.ay;have h4:=h.stores;have h5:=h.bF;have h6:=h.outs
 repeat' split
 all_goals simp
 all_goals assumption
def nC (c:aq) (e:Int) (n:Nat):Int:=(List.range n).foldl (λe (j:Nat)=>nd e (decide (((fo c ((j:Int)+2)).length:Int)<=uh ((j:Int)+2))) 8) e
theorem iM (c:aq) (e:Int) (n:Nat):nC c e (n+1)=nd (nC c e n) (decide (((fo c ((n:Int)+2)).length:Int)<=uh ((n:Int)+2))) 8:=by
 unfold nC;rw [List.range_succ,List.foldl_append];rfl
def mE (c:aq) (e:Int):Int:=nC c (nd (jq (nd e (cJ 1 24 [c.hours]) 3) c c.bC 0 1048576) (cJ 1 32 [(c.ar.length:Int)]) 8) 5
theorem Mb (w0 V:World) (K:Nat) (c:aq) (e:Int) (hK:w0.heap.size<=K) (hV:Ext w0 V) (hc:bK w0 c) (hl:kU c) (h:FE V K e):
 Calls prog 113 #[.pointer (some ⟨K,0,none⟩),.agg (C8 c)] V λe' w'=>vS V K (mE c e) e' w':=by
 try unfold C8
 have Rg:=h.lt;have hbl:c.ar.length<=9223372036854775807:=dB hl.ar;unfold mE;obtain ⟨e1,Ht⟩: ∃e1,e1=nd e (cJ 1 24 [c.hours]) 3:=⟨_,rfl⟩;obtain ⟨e2,DF⟩: ∃e2,e2=jq e1 c c.bC 0 1048576:=⟨_,rfl⟩;obtain ⟨e3,Tc⟩: ∃e3,e3=nd e2 (cJ 1 32 [(c.ar.length:Int)]) 8:=⟨_,rfl⟩;rw [<-Ht,<-DF,<-Tc];have vD:=af Ht;have CZ:=af DF;have Qm:=af Tc
 have U9:=af hc.hours;have dK:=af (Cu hbl);have HRV:=af hc.bC
 have iL:=af hc;have HV:=af hV;have eQ:=af hK;have HH:=af h;have HLE:=af hl
 clear Ht DF Tc hc hV hK h hl;go_enter func113,ntmps113
 go_upto_region 1 with fail
 obtain ⟨W0,hW,x0,Z0,A0⟩:=bS V 30 c.cells;rw [show V.alloc (.cells (C8 c) 30)=W0 from hW.symm];clear hW;obtain ⟨B,hB⟩: ∃B,B=V.heap.size:=⟨_,rfl⟩;rw [<-hB]at A0⊢;have mP:B≠K:=ae;have HF:=af (HH.o.ext x0);have HB:=af A0;have QG:=af (x0.but K);have Rp:=af (HV.o.trans x0)
 clear A0 Z0 x0 hB HH;obtain ⟨k0,-⟩:=aq.at HB.o;go_wp2_with fail
 refine (FT W0 c.hours 1 24 U9.o).mono ?_;rintro e' w1 ⟨rfl,rfl⟩;go_wp2_with fail
 refine (d_ _ K _ _ _ _ _ _ (HF.o.alloc _)).mono ?_;rintro e' W1 ⟨rfl,hf,hx⟩;rw [<-vD.o]at hf;have Cn:=af hf;have DJ:=af ((HB.o.alloc' _).but hx mP);have xR:=((aH.refl K W0).alloc' _).trans hx
 have OX:=af (QG.o.trans xR);have OY:=af (xR.ext Rp.o eQ.o)
 clear hf hx xR k0 HF HB QG Rp;obtain ⟨k0,k1,k2,k3,k4,k5,k6,k7⟩:=aq.at DJ.o;go_wp2_with fail
 refine (ug w0 W1 K c _ c.ra c.rc c.bC _ _ _ _ _ eQ.o OY.o HRV.o Cn.o).mono ?_;rintro e' W2 ⟨rfl,hf,hx⟩;rw [<-CZ.o]at hf;have HF:=af hf;have HB:=af (DJ.o.but hx mP)
 have QG:=af (OX.o.trans hx);have Rp:=af (hx.ext OY.o eQ.o)
 clear hf hx k0 k1 k2 k3 k4 k5 k6 k7 Cn DJ OX OY;obtain ⟨-,-,k2,-⟩:=aq.at HB.o;go_wp2_with fail
 refine (FT W2 (c.ar.length:Int) 1 32 dK.o).mono ?_;rintro e' w1 ⟨rfl,rfl⟩;go_wp2_with fail
 refine (d_ _ K _ _ _ _ _ _ (HF.o.alloc _)).mono ?_;rintro e' W3 ⟨rfl,hf,hx⟩;rw [<-Qm.o]at hf;have Cn:=af hf;have DJ:=af ((HB.o.alloc' _).but hx mP);have xR:=((aH.refl K W2).alloc' _).trans hx
 have OX:=af (QG.o.trans xR);have OY:=af (xR.ext Rp.o eQ.o)
 clear hf hx xR k2 HF HB QG Rp hbl;go_wp2
 go_loopw [4] (λii wr=> ∃n:Nat,n<=5/\FE wr K (nC c e3 n)/\aH K V wr/\aY wr B 30 c.cells/\ii= .int .i64 ((n:Int)+2)) (λii _=>(7-intOf ii).toNat)
 case atStart=>exact ⟨0,ae,Cn.o,OX.o,DJ.o,rfl⟩
 case round=>
  obtain ⟨n,hn,hF,hX,hB,rfl⟩:=hrel;clear Cn OX DJ OY;by_cases hlt:n<5
  .have HF:=af hF;have HX:=af hX;have HB:=af hB
   have Rp:=af (hX.ext HV.o eQ.o);have HS:=af (iM c e3 n);obtain ⟨A9,LK⟩: ∃A9,fo c ((n:Int)+2)=A9:=⟨_,rfl⟩;have X6:A9.length<=1000000:=by rw [<-LK];exact HLE.o.names _
   have HNM:=af LK;rw [LK]at HS;have Rq:=af (λU=>OJ U ((n:Int)+2) ae);have HNA:=af (Cr w0 wr c ((n:Int)+2) A9 LK ae Rp.o iL.o X6);generalize uh ((n:Int)+2)=mo at*;generalize nC c e3 n=e4 at*;obtain ⟨k0,k1,k2,k3,k4,k5,k6,k7⟩:=aq.at hB;clear hF hX hB LK;go_wp2_with fail
   refine HNA.o.mono ?_;rintro e' w1 ⟨a,cap,rfl,hS,x1,-⟩;have jZ:=af x1;clear k0 k1 k2 k3 k4 k5 k6 k7 hS x1;go_wp2_with fail
   refine (Rq.o w1).mono ?_;rintro e' w2 ⟨rfl,x2⟩;have kz:=af (jZ.o.trans x2);clear x2;go_wp2_with fail
   refine (d_ w2 K _ _ _ _ _ _ (HF.o.ext kz.o)).mono ?_;rintro e' w3 ⟨rfl,hf,hx⟩;rw [<-HS.o]at hf;have HR:=af hf;have Dr:=af ((HB.o.ext kz.o).but hx mP);have Hy:=af (HX.o.trans ((kz.o.but K).trans hx));clear hf hx;go_wp2
   exact ⟨⟨n+1,ae,HR.o,Hy.o,Dr.o,bq⟩,bz⟩
  .obtain rfl:n=5:=ae
   go_wp2
   exact bodyPost_end (v:= .tuple #[]) aw rfl ⟨rfl,hF,hX⟩
def jz (c:aq) (i:Nat):List Int:=(c.lines[i]?.map cX.away).getD []
theorem sk {c:aq} {i:Nat} (h:i<c.lines.length):jz c i=c.lines[i].away:=by unfold jz;rw [List.getElem?_eq_getElem h];rfl
def cK (c:aq) (h:Int) (n:Nat):List Nat:=(List.range n).filter λi=> !hasB (jz c i) h
theorem xt (c:aq) (h:Int) (n:Nat):cK c h (n+1)=if hasB (jz c n) h=true then cK c h n else cK c h n++ [n]:=by
 unfold cK;rw [List.range_succ,List.filter_append];cases q:hasB (jz c n) h<;>simp [q]
theorem jf (c:aq) (h:Int) (n:Nat):(cK c h n).length<=n:=by
 have:=List.length_filter_le (λi=> !hasB (jz c i) h) (List.range n);rw [List.length_range]at this;exact this
theorem lu (c:aq) (h:Int) (n:Nat): ∀i∈cK c h n,i<n:=λi hi=>List.mem_range.1 (List.mem_filter.1 hi).1
def iz (l:List Nat):List (List Value):=l.map λ(j:Nat)=> [i64 (j:Int)]
theorem pT (l:List Nat) (n:Nat):iz (l++ [n])=iz l++ [[i64 (n:Int)]]:=by simp [iz]
theorem eV (l:List Nat):(iz l).length=l.length:=by simp [iz]
def cU (l:List Nat):List Int:=l.map λ(j:Nat)=>(j:Int)
theorem pU (l:List Nat):iz l=(cU l).map λz=> [i64 z]:=by simp [iz,cU]
theorem rp {l:List Nat} {n:Nat} (h: ∀i∈l,i<n) (hn:n<=9223372036854775807):lq (cU l):=λz hz=>by
 obtain ⟨j,hj,rfl⟩:=List.mem_map.1 hz;have:=h j hj;unfold dx;omega
theorem cp (l:List Nat):(cU l).length=l.length:=by simp [cU]
theorem tL (w0 V:World) (c:aq) (h:Int) (hV:Ext w0 V) (hc:bK w0 c) (hn:c.lines.length<=1000000):
 Calls prog 211 #[.agg (C8 c),i64 h] V λe w'=> ∃a cap,e= .returned (.slice a (cK c h c.lines.length).length cap)/\bV w' a cap (cU (cK c h c.lines.length))/\Ext V w'/\Fr V.heap.size a:=by
 try unfold C8
 have hr:=hc.lines;have hle:=hr.le;have eI:=hr.cap
 rw [List.length_map]at hle;have HR:=af hr;have HV:=af hV;have HN:=af hn;have HLI:=af hc.line
 clear hc hr hV hn;go_enter func211,ntmps211
 go_upto_region 1 with fail
 obtain ⟨W,hW,x0,Z0,A0⟩:=bS V 30 c.cells;rw [show V.alloc (.cells (C8 c) 30)=W from hW.symm];clear hW;have HA:=af A0;have HX:=af x0
 obtain ⟨B,hB⟩: ∃B,B=V.heap.size:=⟨_,rfl⟩;rw [<-hB]at HA⊢;clear A0 x0 Z0;have qI:=af hB;clear hB;go_wp2
 go_loopw [5,6] (λv ii wr=> ∃i:Nat,i<=c.lines.length/\cj wr W.heap.size 3 1 v (iz (cK c h i))/\Ext W wr/\ii= .int .i64 i) (λ_ ii _=>c.lines.length-(intOf ii).toNat)
 case atStart=>exact ⟨0,bm,cj.nil _ _ _ _,ah,rfl⟩
 case round=>
  obtain ⟨i,hi,hown,hE,rfl⟩:=hrel;have HO:=af hown;obtain ⟨-,-,-,k3,-⟩:=aq.at (HA.o.ext hE);clear hown;by_cases hlt:i<c.lines.length
  .obtain ⟨b,o,ha,-,-,-,-,-,-,-,-,-,-,-,c11⟩:=((HR.o.ext HV.o).ext (HX.o.trans hE)).lines i hlt
   have Te:=(HLI.o c.lines[i] (List.getElem_mem hlt)).2.1;have HST:=af (xt c h i);have o0:=af (yM wr _ _ _ h ((Te.ext HV.o).ext (HX.o.trans hE)));rw [sk hlt]at HST;generalize c.lines[i]=x at*;have HLEN:=af (jf c h i);generalize cK c h i=l at*;rw [ha]at k3;have mn:(0:Int)<=(i:Int):=ae;have mq:(i:Int)<(c.lines.length:Int):=ae;have HE:=af hE;have Rs:=hE.size
   clear ha hE Te;rcases Bool.eq_false_or_eq_true (hasB x.away h)with hq|hq
   .rw [hq]at o0 HST
    clear hq;go_wp2_with fail
    refine o0.o.mono ?_;rintro e w1 ⟨rfl,kR⟩;rw [kR];clear kR
    go_wp2
    exact ⟨⟨i+1,ae,by rw [HST.o];simpa using HO.o,HE.o,bq⟩,bz⟩
   .rw [hq]at o0 HST
    clear hq
    have HOW:Hid (wr.ownsRow W.heap.size 3 1 u5 l.length (iz l).flatten):=by
     have h5:=HO.o.own;rw [eV]at h5;exact h5
    go_wp2_with fail
    refine o0.o.mono ?_;rintro e w1 ⟨rfl,kR⟩;rw [kR];clear kR
    go_wp2_with (at_builtin;refine fC _ rfl (.tmp 23) (.tmp 25) 22 rfl W.heap.size 3 (.int .i64 0) 1 8 underlying22 Tryz.info_int rfl ai u5 l.length (iz l).flatten rfl ?c1 (some ⟨wr.heap.size,0,none⟩) 1 1 [i64 (i:Int)] rfl rfl ?c2 ?c3 ?c4 ?c5 ai ?c6 ?_;rotate_right;intro v1 w5 ho he hb hz hv)
    case c1=>exact fg HOW.o (ah.alloc _)
    case c2=>exact λ_=>⟨_,rfl,kY wr 3 [i64 (i:Int)]⟩
    case c3=>intro u hu;rw [List.mem_singleton]at hu;subst hu;rfl
    case c4=>intro e;cases e
    case c5=>have:=HN.o;have:=HLEN.o;omega
    case c6=>have:=Rs;simp;omega
    have x5:Ext W w5:=he.o W (HE.o.alloc _) cG;have yO:=HO.o.snoc (w':=w5) (v':=v1) (r:= [i64 (i:Int)]) rfl (by rw [eV];exact ho.o);rw [<-pT]at yO;exact ⟨⟨i+1,ae,by rw [HST.o];simpa using yO,x5,bq⟩,bz⟩
  .obtain rfl:i=c.lines.length:=ae
   obtain ⟨a,cap,rfl,hS,kV⟩:=HO.o.recs ai;rw [eV];rw [pU]at hS;have HI:=af (bV.Aa hS (rp (lu c h _) ae));have qm:=af kV;clear hS kV HO;go_wp2
   go_ret;exact ⟨a,cap,rfl,HI.o,HX.o.trans hE,qm.o.mono HX.o.size⟩
def Bx (l:List Int) (n:Nat):Nat:=(List.range n).countP λb=>kE l b==(b:Int)
theorem Mc (l:List Int) (n:Nat):Bx l (n+1)=Bx l n+if(kE l n==(n:Int))=true then 1 else 0:=by
 unfold Bx;rw [List.range_succ,List.countP_append,List.countP_singleton]
theorem Rt (l:List Int) (n:Nat):Bx l n<=n:=by
 unfold Bx;have:=List.countP_le_length (p:=λb:Nat=>kE l b==(b:Int)) (l:=List.range n);rw [List.length_range]at this;exact this
theorem Cv (w:World) (a:Option Addr) (c:Nat) (l:List Int) (h:bV w a c l):
 Calls prog 212 #[.slice a l.length c] w λe w'=>e= .returned (i64 (Bx l l.length))/\w'=w:=by
 have hle:=h.le;have eI:=h.cap
 have HL:=af h;clear h;go_enter func212,ntmps212
 go_wp2
 go_loopw [3,4] (λnn ii wr=> ∃i:Nat,i<=l.length/\wr=w/\nn= .int .i64 (Bx l i)/\ii= .int .i64 i) (λ_ ii _=>l.length-(intOf ii).toNat)
 case atStart=>exact ⟨0,bm,rfl,rfl,rfl⟩
 case round=>
  obtain ⟨i,hi,hw,rfl,rfl⟩:=hrel;subst hw;by_cases hlt:i<l.length
  .obtain ⟨b,o,rfl,c0⟩:=HL.o.cell i hlt
   rw [<-gh hlt]at c0;have HC:=af (Mc l i);have UM:=Rt l i;generalize Bx l i=q at*;obtain ⟨x,hx⟩: ∃x,x=kE l i:=⟨_,rfl⟩;rw [<-hx]at c0 HC;clear hx;have mn:(0:Int)<=(i:Int):=ae;have mq:(i:Int)<(l.length:Int):=ae;rcases Bool.eq_false_or_eq_true (x==(i:Int))with hq|hq
   .have HQ:=af hq
    go_wp2
    exact ⟨⟨i+1,ae,by first|trivial|rfl,by rw [HC.o,HQ.o,if_pos rfl];go_num,bq⟩,bz⟩
   .have HQ:=af hq
    go_wp2
    exact ⟨⟨i+1,ae,by first|trivial|rfl,by rw [HC.o,HQ.o,if_neg ai];rfl,bq⟩,bz⟩
  .obtain rfl:i=l.length:=ae
   go_wp2
   go_ret;exact ⟨rfl,rfl⟩
section
variable{P:Program} (w:World)
theorem j4 {o:Oper} {a:Act} {Q:Exit->Act->World->Prop} {K:Act->World->Prop} (s x:Operand) (t:TypeId)
 (ho:o.op= .call {callee:= .builtin .append,args:= #[s,x],argTypes:= #[t,t]})
 (base:Nat) (e:TypeId) (z:Value) (size bytes:Nat) (ht:P.underlying t=some (.slice e)) (kD:(P.info? e).map (λi=>(i.zero,i.size,i.bytes))=some (some z,size,bytes)) (hzs:z.cells.size=size) (hsz:0<size)
 (v:Value) (n:Nat) (xs:List Value) (hs:a.eval s=v) (hown:w.ownsRow base e size v n xs)
 (xa:Option Addr) (m c:Nat) (news:List Value) (hx:a.eval x= .slice xa m c) (hl:news.length=m*size) (hnews:0<m-> ∃ad,xa=some ad/\ ∀j u,news[j]?=some u->w.cell? (ad.add j)=some u) (h1: ∀u∈news,u.oneCell'=true)
 (hnil:xa=none->m=0/\c=0)
 (h63:n+m<=1200000000000) (hbytes:bytes<=100) (hbase:base<=w.heap.size)
 (h: ∀v' w',Hid (w'.ownsRow base e size v' (n+m) (xs++news))->Hid (∀a0,Ext a0 w->a0.heap.size<=base->Ext a0 w')->Hid (∀k,k<w.heap.size->some k≠v.ownBlock->w'.heap[k]?=w.heap[k]?)->Hid (w.heap.size<=w'.heap.size)->Hid (v'.ownBlock=v.ownBlock\/ ∃g,v'.ownBlock=some g/\w.heap.size<=g)->K (a.put o.dst v') w') (hm:0<m):Oper.wp P o a w K Q:=by
 obtain ⟨i,hi,hz,hsize,hby⟩:=info_parts kD;have hlt:=hown.lt;have hb:(n+m)*bytes<=140737488355328:=Nat.le_trans (Nat.mul_le_mul h63 hbytes) ai;have ER:n+m<=maxLen:=by unfold maxLen;omega
 cases xa with
 |none=>
  obtain ⟨rfl,rfl⟩:=hnil rfl;omega
 |some ad=>
  have tQ: ∀j u,news[j]?=some u->w.cell? (ad.add j)=some u:=by
   intro j u hu;by_cases hm:0<m
   .obtain ⟨ad',e',hh⟩:=hnews hm;cases e';exact hh j u hu
   .have:news= []:=List.eq_nil_of_length_eq_zero (by rw [hl];have:m=0:=ae
                                                     simp [this])
    rw [this]at hu;simp at hu
  obtain ⟨v',w',hr,h2,h3,h4,h5⟩:=oF (P:=P) w base t o.type e i z size bytes ht hi hz hsize hby hzs hsz v n xs hown ad m c news hl tQ h1 ER hb hbase;unfold Oper.wp execOp;simp only [ho,resolve,invoke,builtin,Sem.run_bind,Sem.run_pure,Result.andThen_ok,List.map_toArray,List.map_cons,List.map_nil,hs,hx,hr];refine (h v' w' h2 (λa0 ha hb0=>⟨ha.below.trans ⟨h3.os,h3.tape,h3.output,h3.size,λk hk=>h3.block k (dB ha.size) (λe'=>dB (hlt k e'.symm))⟩,Nat.le_trans ha.drawn h4⟩) h3.block h3.size h5)
end
theorem Tryz.info_pair:(Tryz.prog.info? 239).map (λi=>(i.zero,i.size,i.bytes))=some (some (.agg #[i64 0,i64 0]),2,16):=aw
def nD (c:aq) (i:Nat):Int×Int:=((c.lines[i]?.map cX.fQ).getD 0,(c.lines[i]?.map cX.qZ).getD 0)
theorem sw {c:aq} {i:Nat} (h:i<c.lines.length):nD c i=(c.lines[i].fQ,c.lines[i].qZ):=by unfold nD;rw [List.getElem?_eq_getElem h];rfl
def jL (c:aq) (l:List Nat):List (Int×Int):=l.map (nD c)
def iF (l:List (Int×Int)):List (List Value):=l.map λp=> [i64 p.1,i64 p.2]
theorem qp (l:List (Int×Int)):(iF l).length=l.length:=by simp [iF]
theorem Bz (c:aq) (l:List Nat) (k:Nat) (h:k<l.length):iF (jL c (l.take (k+1)))=iF (jL c (l.take k))++ [[i64 (nD c l[k]).1,i64 (nD c l[k]).2]]:=by
 unfold iF jL;rw [List.take_succ_eq_append_getElem h,List.map_append,List.map_append];rfl
theorem Md (w0 V:World) (c:aq) (h:Int) (hV:Ext w0 V) (hc:bK w0 c) (hn:c.lines.length<=1000000):
 Calls prog 123 #[.agg (C8 c),i64 h] V λe w'=> ∃a cap b cb,e= .returned (.tuple #[.slice a (cK c h c.lines.length).length cap,.slice b (cK c h c.lines.length).length cb])/\di w' 2 a cap (iF (jL c (cK c h c.lines.length)))/\bV w' b cb (cU (cK c h c.lines.length))/\Ext V w'/\Fr V.heap.size a/\Fr V.heap.size b:=by
 try unfold C8
 have hr:=hc.lines;have hle:=hr.le;have eI:=hr.cap
 rw [List.length_map]at hle;obtain ⟨l,hl⟩: ∃l,cK c h c.lines.length=l:=⟨_,rfl⟩;have OV:l.length<=1000000:=by rw [<-hl];exact Nat.le_trans (jf _ _ _) hn
 have hlt: ∀i∈l,i<c.lines.length:=by rw [<-hl];exact lu c h _
 have Hz:=af (λV' (x:Ext w0 V')=>tL w0 V' c h x hc hn);rw [hl]at Hz⊢;have HR:=af hr;have HV:=af hV;have BV:=af hlt;have HLL:=af OV
 clear hc hr hV hn hl hlt;go_enter func123,ntmps123
 go_upto_region 1 with fail
 obtain ⟨W0,hW,x0,Z0,A0⟩:=bS V 30 c.cells;rw [show V.alloc (.cells (C8 c) 30)=W0 from hW.symm];clear hW;have I0:=af A0;have tx:=af x0
 obtain ⟨B,hB⟩: ∃B,B=V.heap.size:=⟨_,rfl⟩;rw [<-hB]at I0⊢;clear A0 x0 Z0;have qI:=af hB;clear hB;obtain ⟨k0,k1,k2,k3,k4,k5,k6,k7⟩:=aq.at I0.o;go_wp2_with fail
 refine (Hz.o W0 (HV.o.trans tx.o)).mono ?_;rintro e W ⟨a,cap,rfl,hI,x1,kV⟩;have HI:=af hI;have HX:=af (tx.o.trans x1);have HA:=af (I0.o.ext x1);have iR:Hid (Fr V.heap.size a):=kV.mono tx.o.size
 have nE:=hI.le;have OZ:=hI.cap
 rw [cp]at nE;clear hI x1 kV k0 k1 k2 k3 k4 k5 k6 k7 tx I0 Hz;go_wp2
 go_loopw [7,15] (λv ii wr=> ∃k:Nat,k<=l.length/\cj wr W.heap.size 239 2 v (iF (jL c (l.take k)))/\Ext W wr/\ii= .int .i64 k) (λ_ ii _=>l.length-(intOf ii).toNat)
 case atStart=>exact ⟨0,bm,cj.nil _ _ _ _,ah,rfl⟩
 case round=>
  obtain ⟨k,hk,hown,hE,rfl⟩:=hrel;have HO:=af hown;clear hown;by_cases hlt:k<l.length
  .obtain ⟨ab,ao,hab,i0⟩:=(HI.o.ext hE).cell k (by rw [cp];exact hlt)
   have Qe:=BV.o l[k] (List.getElem_mem hlt);have e0:(cU l)[k]'(by rw [cp];exact hlt)=((l[k]:Nat):Int):=by simp [cU]
   rw [e0]at i0;have HST:=af (Bz c l k hlt);rw [sw Qe]at HST;obtain ⟨b,o,ha,-,g1,g2,-⟩:=((HR.o.ext HV.o).ext HX.o).lines l[k] Qe;obtain ⟨-,-,-,k3,-⟩:=aq.at HA.o;rw [ha]at k3;have tr:Hid ((iF (jL c (l.take k))).length=k):=by show _=_;rw [qp];simp [jL];omega
   have tr:Hid ((iF (jL c (l.take k))).length<=1000000):=by show _<=_;rw [tr.o];omega
   generalize c.lines[l[k]]=x at*;generalize iF (jL c (l.take k))=rows at*;generalize l[k]=j at*;have mn:(0:Int)<=(k:Int):=ae;have mq:(k:Int)<(l.length:Int):=ae;have UT:(0:Int)<=(j:Int):=ae;have UU:(j:Int)<(c.lines.length:Int):=ae;have HE:=af hE;have Rs:=hE.size
   have HOW:Hid (wr.ownsRow W.heap.size 239 2 u7 rows.length rows.flatten):=HO.o.own;have tM:=af hab;clear ha hE hab e0;rw [tM.o];go_wp2_with fail
   refine eo (λw'=>w'.cell? ⟨B,3,none⟩=some (.slice (some ⟨b,o,none⟩) c.lines.length c.lc)/\w'.cell? ⟨b,o+j*12+1,none⟩=some (i64 x.fQ)/\w'.cell? ⟨b,o+j*12+2,none⟩=some (i64 x.qZ)) (λw'=>True) (λi=>false) aw (⟨aB HE.o.drew k3,aB HE.o.drew g1,aB HE.o.drew g2⟩) (trivial) (λdA aL=> ?_);refine eG 0 dA aL ?_ (v:=u7);refine eG 1 dA aL ?_;refine eG 2 dA aL ?_;refine eG 3 dA aL ?_ (v:= .int .i64 (j:Int));refine eG 4 dA aL ?_;refine eG 5 dA aL ?_;refine eG 6 dA aL ?_ (v:=i64 x.fQ);refine eG 7 dA aL ?_;refine eG 8 dA aL ?_;refine eG 9 dA aL ?_ (v:= .int .i64 (j:Int));refine eG 10 dA aL ?_;refine eG 11 dA aL ?_;refine eG 12 dA aL ?_ (v:=i64 x.qZ);refine eG 13 dA aL ?_ (v:= .agg #[i64 x.fQ,i64 x.qZ]);refine Nj 14 rfl (λKc hK=> ?_);go_simp;refine hK.o _ _ (⟨aB (HE.o.drew.alloc _) k3,aB (HE.o.drew.alloc _) g1,aB (HE.o.drew.alloc _) g2⟩) (trivial) (λdA aL=> ?_);clear hK Kc;try simp only [sS]
   refine Nj 15 rfl (λKc hK=> ?_);rw [if_pos bQ];refine j4 _ (.tmp 19) (.tmp 33) 170 rfl W.heap.size 239 (.agg #[i64 0,i64 0]) 2 16 underlying170 Tryz.info_pair rfl ai u7 rows.length rows.flatten rfl ?c1 (some ⟨wr.heap.size,0,none⟩) 1 1 [i64 x.fQ,i64 x.qZ] rfl rfl ?c2 ?c3 ?c4 ?c5 ai ?c6 ?c7 ai
   case c1=>exact fg HOW.o ((Ext.refl wr).drew.alloc _)
   case c2=>exact λ_=>⟨_,rfl,kY wr.drew 239 [i64 x.fQ,i64 x.qZ]⟩
   case c3=>intro u hu;simp only [List.mem_cons,List.not_mem_nil,or_false]at hu;rcases hu with rfl|rfl<;>rfl
   case c4=>intro e;cases e
   case c5=>have:=tr.o;omega
   case c6=>exact Nat.le_trans Rs ((Ext.refl wr).drew.alloc _).size
   intro v1 w5 ho he hb hz hv;have x5:Ext W w5:=he.o W (HE.o.drew.alloc _) cG;refine hK.o _ _ (⟨aB x5 k3,aB x5 g1,aB x5 g2⟩) (trivial) (λdA aL=> ?_);clear hK Kc;try simp only [sS]
   refine eG 16 dA aL ?_ (v:=v1);refine eh aw ?_ _;clear dA aL;have yO:=HO.o.snoc (w':=w5) (v':=v1) (r:= [i64 x.fQ,i64 x.qZ]) rfl ho.o;rw [<-HST.o]at yO;go_wp2
   exact ⟨⟨k+1,ae,yO,x5,bq⟩,bz⟩
  .obtain rfl:k=l.length:=ae
   rw [List.take_length]at HO;obtain ⟨pa,pc,rfl,hS,kV⟩:=HO.o.recs ai;have e1:(iF (jL c l)).length=l.length:=by rw [qp];simp [jL]
   rw [e1];have HS:=af hS;have qm:=af kV
   clear hS kV HO e1;go_wp2
   exact bodyPost_ret (v:= .tuple #[.slice pa l.length pc,.slice a l.length cap]) (by simp [results,results123,go_sem]) rfl ⟨pa,pc,a,cap,rfl,HS.o,HI.o.ext hE,HX.o.trans hE,qm.o.mono HX.o.size,iR.o⟩
