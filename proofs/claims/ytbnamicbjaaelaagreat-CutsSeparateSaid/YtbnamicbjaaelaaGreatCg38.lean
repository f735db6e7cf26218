/- Texts of the proof. -/
import Derived.Test.YtbnamicbjaaelaaGreatCg30
import Derived.Test.YtbnamicbjaaelaaGreatCg37
set_option linter.all false
set_option maxHeartbeats 2000000
set_option maxRecDepth 100000
namespace Go.Proofs.YtbnamicbjaaelaaGreat
open Go.Proofs.Tryz
open Go.ChangeShapes Go.WideShapes Go.ChangeAt Go.RowKit Go.Deep
theorem zi (w:World) (a b:Option Addr) (c c':Nat) (l:List Int) (hA:oF w a l) (hB:oF w b l) (hl:l.length<1000000):
 Calls prog 99 #[.slice a l.length c,.slice b l.length c'] w λe w'=>e= .returned (.bool true)/\Ext w w':=by
 obtain ⟨b1,o1,rfl,hA⟩:=hA;obtain ⟨b2,o2,rfl,hB⟩:=hB;go_enter func99,ntmps99
 go_wp2
 go_loopw [5] (λi wr=> ∃j:Nat,j<=l.length/\i= .int .i64 j/\Quiet w wr) (λi _=>l.length-(intOf i).toNat)
 case atStart=>exact ⟨0,aZ,rfl,Quiet.refl _⟩
 case round=>
  obtain ⟨j,hj,rfl,hq⟩:=hrel;by_cases h0:j<l.length
  .have hc:=(hq.ext.cell (cY (hA j h0))).trans (hA j h0)
   have hc':=(hq.ext.cell (cY (hB j h0))).trans (hB j h0);have g1:(j:Int)<(l.length:Int):=ae;have g2:(0:Int)<=(j:Int):=ae;go_wp2
   go_quiet (fail)
   go_wp2
   exact ⟨⟨j+1,ae,rfl,hq.drewN _⟩,a_⟩
  .have hj':j=l.length:=ae
   subst hj';go_wp2
   go_ret;exact ⟨rfl,hq.ext⟩
theorem zj (w:World) (a b:Option Addr) (c c':Nat) (l:List Int) (hA:oF w a l) (hB:oF w b l) (hl:l.length<1000000):
 Calls prog 51 #[.slice a l.length c,.slice b l.length c'] w λe w'=>e= .returned (.bool true)/\Ext w w':=by
 go_enter func51,ntmps51
 go_wp2_with fail
 refine (zi _ _ _ _ _ _ hA hB hl).mono ?_;rintro e w1 ⟨rfl,hX⟩;go_wp2
 go_ret;exact ⟨rfl,hX⟩
theorem JK (w:World) (a:Option Addr) (c:Nat) (rs:List cH) (h:mq w a c rs):
 Calls prog 15 #[.slice a rs.length c] w λe w'=> ∃b,e= .returned (.bool b)/\(b=true->G9 rs)/\w=w':=by
 have hle:=h.le;have dS:=h.cap;have HR:=ah h;clear h;go_enter func15,ntmps15
 by_cases h30:30<rs.length
 .go_wp2
  go_ret;exact ⟨false,rfl,(λh=>nomatch h),rfl⟩
 go_wp2
 go_loopw [3] (λii wr=> ∃j:Nat,j<=rs.length/\ii= .int .i64 j/\(∀i (hi:i<rs.length),i<j->rs[i].k<=4/\rs[i].j<=4)/\w=wr) (λii _=>rs.length-(intOf ii).toNat)
 case atStart=>exact ⟨0,aZ,rfl,λi _ h=>absurd h (Nat.not_lt_zero _),rfl⟩
 case round=>
  obtain ⟨j,hj,rfl,hA,rfl⟩:=hrel;have HA:=ah hA;clear hA;by_cases hlt:j<rs.length
  .obtain ⟨b,o,rfl,c0,c1,c2⟩:=HR.o.cell j hlt
   have HB:Hid (rs[j].k<=4/\rs[j].j<=4-> ∀i (hi:i<rs.length),i<j+1->rs[i].k<=4/\rs[i].j<=4):=λq i hi h=>by
    rcases Nat.lt_or_ge i j with e|e
    .exact HA.o i hi e
    .obtain rfl:i=j:=ae
     exact q
   generalize rs[j]=y at*;by_cases h1:y.k<=4
   .by_cases h2:y.j<=4
    .have HC:=ah (HB.o ⟨h1,h2⟩)
     have t1:decide ((4:Int)<(y.k:Int))=false:=by simp;omega
     have t2:decide ((4:Int)<(y.j:Int))=false:=by simp;omega
     go_wp2
     exact ⟨⟨j+1,hlt,bf,HC.o,by trivial⟩,a_⟩
    .have t1:decide ((4:Int)<(y.k:Int))=false:=by simp;omega
     have t2:decide ((4:Int)<(y.j:Int))=true:=by simp;omega
     go_wp2
     go_ret;exact ⟨false,rfl,(λh=>nomatch h),rfl⟩
   .have t1:decide ((4:Int)<(y.k:Int))=true:=by simp;omega
    go_wp2
    go_ret;exact ⟨false,rfl,(λh=>nomatch h),rfl⟩
  .obtain rfl:j=rs.length:=ae
   go_wp2
   go_ret;exact ⟨true,rfl,λ_=>⟨ae,λi hi=>HA.o i hi hi⟩,rfl⟩
section
variable{P:Program} {ops:Array Oper} {Q:Exit->Act->World->Prop} {S:World->Prop} {n:Nat} {ls li lj:Array Bool} {a:Act} {w:World}
theorem wC2 (i j:Nat) {oi oj:Oper} (hi: ∀K':Act->World->Prop,Shut (∀a w,S w->(S w->wpS P ops Q S n li a w)->K' a w)->if Region.wanted oi (yielded ops a.tmps)=true then Oper.wp P oi a w K' Q else K' (a.put oi.dst undef) w)
 (hj: ∀K':Act->World->Prop,Shut (∀a w,S w->(S w->wpS P ops Q S n lj a w)->K' a w)->if Region.wanted oj (yielded ops a.tmps)=true then Oper.wp P oj a w K' Q else K' (a.put oj.dst undef) w)
 (ei:ops[i]?=some oi:=by rfl) (ej:ops[j]?=some oj:=by rfl) (PW:ls.setIfInBounds i true=li:=by simp only [sS];rfl) (hlj:ls.setIfInBounds j true=lj:=by simp only [sS];rfl) (hr:Region.ready .any ops ls= [i,j]:=by kernel_rfl):wpS P ops Q S (n+1) ls a w:=by
 subst PW hlj;exact bH hr aG (aQ.cons ei (λK' hK=>hi K' (ah λa w hS hW=>hK.o a w hS trivial λhS _=>hW hS)) (aQ.cons ej (λK' hK=>hj K' (ah λa w hS hW=>hK.o a w hS trivial λhS _=>hW hS)) aQ.nil))
end
theorem Gw (c:ay) (f:Nat->Nat->Rat) (h:Nat):(pd c f h).length<=c.aA.length:=by
 obtain ⟨r,h1,h2,-⟩:=xi (n:=c.aA.length) (x:=λu=>f u h) (cap:=dG c h) (need:=jx c h) (((List.range (2^c.aA.length)).drop 1).map (λb=>members b c.aA.length)) [] (.inl rfl);unfold pd vW;rw [h1];rcases h2 with rfl|h2
 .exact aZ
 .obtain ⟨b,-,rfl⟩:=List.mem_map.1 h2
  exact o_ b _
theorem HJ (c:ay) (f:Nat->Nat->Rat): ∀h,∀p∈nN c f h,p.2≠ []/\p.2.length<=c.aA.length
 |0,_,e=>nomatch e
 |h+1,p,e=>by
  rw [nN]at e;rcases List.mem_append.1 e with q|q
  .exact HJ c f h p q
  .split at q
   .cases q
   .rw [List.mem_singleton]at q;rw [q];exact ⟨by assumption,Gw c f h⟩
theorem CL.at {D:Nat} {ga:Option Addr} {gc:Nat} {cs:List kN} {w:World} (h:CL D ga gc cs w) (i:Nat) (hi:i<cs.length): ∃b o,ga=some ⟨b,o,none⟩/\Cs w b (o+i*6) 0 cs[i].cells:=by
 obtain ⟨a,c,e,hr,-⟩:=h.own.recs aq;simp only [Value.slice.injEq]at e;obtain ⟨rfl,-,rfl⟩:=e;exact hr.cs i hi
theorem CL.le {D:Nat} {ga:Option Addr} {gc:Nat} {cs:List kN} {w:World} (h:CL D ga gc cs w):cs.length<=gc/\gc<=9223372036854775807:=by
 obtain ⟨a,c,e,hr,-⟩:=h.own.recs aq;simp only [Value.slice.injEq]at e;obtain ⟨rfl,-,rfl⟩:=e;have h1:=hr.le;rw [List.length_map]at h1;exact ⟨h1,hr.cap⟩
theorem Ao {w:World} {a:Option Addr} {c:Nat} {l:List Nat} (h:aS w a c (aR l)) (hl:l≠ []):oF w a (aR l):=by
 have h0:0<(aR l).length:=by rw [aN];exact List.length_pos_iff.2 hl
 obtain ⟨b,o,rfl,-⟩:=h.cell 0 h0;refine ⟨b,o,rfl,λi hi=> ?_⟩;obtain ⟨b',o',e,hc⟩:=h.cell i hi;cases e;exact hc
theorem MG (V:World) (D D':Nat) (ga gb:Option Addr) (gc gd:Nat) (cs ds:List kN) (h:CL D ga gc cs V) (h':CL D' gb gd ds V) (he:cs.map (λx=>(x.h,x.l))=ds.map λx=>(x.h,x.l)) (hne: ∀x∈cs,x.l≠ []/\x.l.length<=1000):
 Calls prog 19 #[.slice ga cs.length gc,.slice gb ds.length gd] V λe w'=>e= .returned (.bool true)/\Ext V w':=by
 have hle:=h.le;have sy:=h'.le
 have hlen:ds.length=cs.length:=by have:=congrArg List.length he;simpa using this.symm
 have H:=ah h;have H':=ah h';have HE:=ah he;have HN:=ah hne
 have oB:=ah hlen;rw [hlen]at sy⊢;clear h h' he hne hlen;go_enter func19,ntmps19
 go_wp2
 go_loopw [5] (λii wr=> ∃i:Nat,i<=cs.length/\ii= .int .i64 i/\Ext V wr) (λii _=>cs.length-(intOf ii).toNat)
 case atStart=>exact ⟨0,aZ,rfl,ar⟩
 case round=>
  obtain ⟨i,hi,rfl,s⟩:=hrel;by_cases hlt:i<cs.length
  .have b1:(i:Int)<(cs.length:Int):=ae
   have b0:(0:Int)<=(i:Int):=ae;have hld:i<ds.length:=by rw [oB.o];exact hlt
   obtain ⟨g1,o1,rfl,hc1⟩:=H.o.at i hlt;obtain ⟨g2,o2,rfl,hc2⟩:=H'.o.at i hld
   have hq:(cs[i].h,cs[i].l)=(ds[i].h,ds[i].l):=by
    have:=congrArg (λL=>L[i]?) HE.o;simpa [hlt,hld]using this
   have Kn:=ah (H.o.row cs[i] (List.getElem_mem hlt)).1;have nk:=ah (H'.o.row ds[i] (List.getElem_mem hld)).1
   have UU:=ah (HN.o cs[i] (List.getElem_mem hlt));generalize cs[i]=x at*;generalize ds[i]=y at*;have HQ:=ah (Prod.mk.inj hq);have c1: ∀Y,Ext V Y->_:=λY e=>hc1.ext e;have c2: ∀Y,Ext V Y->_:=λY e=>hc2.ext e;simp only [Cs,kN.cells,Nat.add_zero]at c1 c2;clear hq hc1 hc2;go_upto_region 6 with fail
   go_cut [6,7] (λvx vy wx=> ∃X Z,vx= .pointer (some ⟨X,0,none⟩)/\vy= .pointer (some ⟨Z,0,none⟩)/\Hid (aT wx X 24 [i64 0,.int .i64 (x.h:Nat),.slice x.a x.l.length x.k,i64 1,i64 0,i64 0]/\aT wx Z 24 [i64 0,.int .i64 (y.h:Nat),.slice y.a y.l.length y.k,i64 1,i64 0,i64 0])/\Ext V wx)
   case first=>
    refine wG (λw=>Ext V w) s.drew λs=> ?_;generalize wr.drew=Y at*;have Hr:=ah s;refine wV 0 s ?_;refine wV 1 s ?_;refine wV 2 s ?_;refine wV 3 s ?_;refine wV 4 s ?_;refine wV 5 s ?_;refine wV 6 s ?_;refine wV 7 s ?_;refine wC2 8 9 (λK' hK=> ?_) (λK' hK=> ?_)
    .rw [if_pos eN]
     go_simp;generalize Hk:World.alloc _ _=WX;obtain ⟨_,rfl,xX,AX⟩:=bV Hk;refine hK.o _ _ (s.trans xX) λs=> ?_;clear hK K' Hk;refine wR 9 λK' hK=> ?_;rw [if_pos eN];go_simp;generalize XA:World.alloc _ _=WZ;obtain ⟨_,rfl,xZ,AZ⟩:=bV XA;refine hK.o _ _ (s.trans xZ) λs=> ?_;clear hK K' XA;have hne:Y.heap.size≠WX.heap.size:=bA AX.lt;have AX:=AX.ext xZ;have XB:V.heap.size<=Y.heap.size/\V.heap.size<=WX.heap.size:=qj Hr.o.size xX.size;refine wR 10 λK' hK=> ?_;rw [if_pos eN];refine fN 24 _ _ rfl Y.heap.size [i64 0,i64 0,.slice none 0 0,i64 0,i64 0,i64 0] [i64 0,.int .i64 (x.h:Nat),.slice x.a x.l.length x.k,i64 1,i64 0,i64 0] AX rfl rfl ax rfl rfl ?_;intro U10 B10 vU;have AZ:=AZ.but vU (Ne.symm hne);have s:=vU.ext s XB.1;refine hK.o _ _ s λs=> ?_;clear hK K';refine wR 11 λK' hK=> ?_;rw [if_pos eN];refine fN 24 _ _ rfl WX.heap.size [i64 0,i64 0,.slice none 0 0,i64 0,i64 0,i64 0] [i64 0,.int .i64 (y.h:Nat),.slice y.a y.l.length y.k,i64 1,i64 0,i64 0] AZ rfl rfl ax rfl rfl ?_;intro U11 B11 vV;have AX:=B10.but vV hne;have s:=vV.ext s XB.2;refine hK.o _ _ s λs=> ?_;clear hK K';refine wD ?_;go_wp2
     go_meet
     exact ⟨Y.heap.size,WX.heap.size,rfl,rfl,⟨AX,B11⟩,s⟩
    .rw [if_pos eN]
     go_simp;generalize XA:World.alloc _ _=WZ;obtain ⟨_,rfl,xZ,AZ⟩:=bV XA;refine hK.o _ _ (s.trans xZ) λs=> ?_;clear hK K' XA;refine wR 8 λK' hK=> ?_;rw [if_pos eN];go_simp;generalize Hk:World.alloc _ _=WX;obtain ⟨_,rfl,xX,AX⟩:=bV Hk;refine hK.o _ _ (s.trans xX) λs=> ?_;clear hK K' Hk;have hne:WZ.heap.size≠Y.heap.size:=bA AZ.lt;have AZ:=AZ.ext xX;have XB:V.heap.size<=WZ.heap.size/\V.heap.size<=Y.heap.size:=qj Hr.o.size xZ.size;refine wR 10 λK' hK=> ?_;rw [if_pos eN];refine fN 24 _ _ rfl WZ.heap.size [i64 0,i64 0,.slice none 0 0,i64 0,i64 0,i64 0] [i64 0,.int .i64 (x.h:Nat),.slice x.a x.l.length x.k,i64 1,i64 0,i64 0] AX rfl rfl ax rfl rfl ?_;intro U10 B10 vU;have AZ:=AZ.but vU (Ne.symm hne);have s:=vU.ext s XB.1;refine hK.o _ _ s λs=> ?_;clear hK K';refine wR 11 λK' hK=> ?_;rw [if_pos eN];refine fN 24 _ _ rfl Y.heap.size [i64 0,i64 0,.slice none 0 0,i64 0,i64 0,i64 0] [i64 0,.int .i64 (y.h:Nat),.slice y.a y.l.length y.k,i64 1,i64 0,i64 0] AZ rfl rfl ax rfl rfl ?_;intro U11 B11 vV;have AX:=B10.but vV hne;have s:=vV.ext s XB.2;refine hK.o _ _ s λs=> ?_;clear hK K';refine wD ?_;go_wp2
     go_meet
     exact ⟨WZ.heap.size,Y.heap.size,rfl,rfl,⟨AX,B11⟩,s⟩
   case rest=>
    obtain ⟨X,Z,rfl,rfl,hA,s⟩:=hcut;generalize wc=W2 at*;obtain ⟨hxh,tQ⟩:=HQ.o;cases x with|mk xh xl xa xk=>
    cases y with|mk yh yl ya yk=>
    simp only at hxh tQ;subst hxh tQ;have k1:=hA.o.1.cs;have k2:=hA.o.2.cs;simp only [Cs,Nat.zero_add]at k1 k2;have vH:=ah (zj W2 xa ya xk yk (aR xl) (Ao (Kn.o.ext s) UU.o.1) (Ao (nk.o.ext s) UU.o.1) (by rw [aN];have:xl.length<=1000:=UU.o.2;omega));rw [aN]at vH;go_wp2_with fail
    refine vH.o.mono ?_;rintro e w3 ⟨rfl,x3⟩;replace s:=s.trans x3;go_wp2
    exact ⟨⟨i+1,hlt,bf,s⟩,a_⟩
  .obtain rfl:i=cs.length:=ae
   go_wp2
   go_ret;exact ⟨rfl,s⟩
open Classical in
noncomputable def JL (c:ay) (on:List kF) (f:Nat->Nat->Rat):List (Nat×List Nat):=if pg c on f=0 then nN c f c.hours.toNat else []
theorem iP.val {V w':World} {c:ay} {on:List kF} {f:Nat->Nat->Rat} {e:Ending} (h:iP V c on f e w'): ∃(D:Nat) (ga:Option Addr) (gc:Nat) (cs:List kN),e= .returned (.tuple #[.slice ga cs.length gc,i64 (pg c on f)])/\CL D ga gc cs w'/\cs.map (λx=>(x.h,x.l))=JL c on f/\Ext V w':=by
 obtain ⟨x,⟨h0,rfl⟩|⟨h0,D,ga,gc,cs,rfl,h1,h2⟩⟩:=h
 .exact ⟨0,none,0,[],rfl,CL.nil _ _,by unfold JL;rw [if_neg h0];rfl,x⟩
 .exact ⟨D,ga,gc,cs,by rw [h0],h1,by unfold JL;rw [if_pos h0];exact h2,x⟩
theorem O5 {c:ay} {on:List kF} {f:Nat->Nat->Rat} {cs:List kN} (h:cs.map (λx=>(x.h,x.l))=JL c on f) (hn:c.aA.length<=4): ∀x∈cs,x.l≠ []/\x.l.length<=1000:=λx hx=>by
 have h1:(x.h,x.l)∈JL c on f:=by rw [<-h];exact List.mem_map_of_mem hx
 unfold JL at h1;split at h1
 .have:=HJ c f _ _ h1
  exact ⟨this.1,by have:=this.2;simp only at this;omega⟩
 .cases h1
theorem Tryz.info_ratz:(Tryz.prog.info? 46).map (λi=>(i.zero,i.size,i.bytes))=some (some (.slice none 0 0),1,24):=ax
theorem qN.grow {w:World} {r:cH} {q:Rat} {L:Nat} {ga g2:Option Addr} (h:jZ w r q L) (ho: ∀p,ga=some p->qN r (some p.block)) (hg: ∀p,g2=some p->w.heap.size<=p.block\/ ∃p',ga=some p'/\p'.block=p.block): ∀p,g2=some p->qN r (some p.block):=λp hp=>by
 rcases hg p hp with q|⟨p',q1,q2⟩
 .exact h.off q
 .rw [<-q2];exact ho p' q1
theorem qN.at {w:World} {r:cH} {q:Rat} {L K:Nat} {ga:Option Addr} (h:jZ w r q L) (ho: ∀p,ga=some p->qN r (some p.block)) (hK:K=w.heap.size\/ ∃p,ga=some p/\p.block=K):qN r (some K):=by
 rcases hK with q|⟨p,q1,q2⟩
 .exact h.off (Nat.le_of_eq q.symm)
 .rw [<-q2];exact ho p q1
structure RW (D T:Nat) (ga:Option Addr) (gc:Nat) (rs:List cH) (f:Nat->Rat) (w:World):Prop where
 own:aL w D 92 3 (.slice ga rs.length gc) (rs.map cH.cells)
 num: ∀i (hi:i<rs.length),jZ w rs[i] (f i) 4/\(∀K,K<=T->qN rs[i] (some K))/\ ∀p,ga=some p->qN rs[i] (some p.block)
theorem RW.next {D T K:Nat} {ga:Option Addr} {gc:Nat} {rs:List cH} {f:Nat->Rat} {w w':World} (h:RW D T ga gc rs f w) (x:aB K w w') (hK:K<=T) (hT:T<D):RW D T ga gc rs f w':=
 ⟨h.own.but x (Nat.lt_of_le_of_lt hK hT),λi hi=>⟨(h.num i hi).1.but x ((h.num i hi).2.1 K hK),(h.num i hi).2⟩⟩
theorem RW.push {D T K:Nat} {ga g2:Option Addr} {gc k2:Nat} {rs:List cH} {f:Nat->Rat} {w w':World} {r:cH} {q:Rat} (h:RW D T ga gc rs f w) (hr:jZ w r q 4) (hT: ∀K,K<=T->qN r (some K)) (ha: ∀p,ga=some p->qN r (some p.block))
 (ho:aL w' D 92 3 (.slice g2 (rs.length+1) k2) (rs.map cH.cells++ [r.cells])) (hK:K=w.heap.size\/ ∃p,ga=some p/\p.block=K) (hg: ∀p,g2=some p->w.heap.size<=p.block\/ ∃p',ga=some p'/\p'.block=p.block) (e:aB K w w'):RW D T g2 k2 (rs++ [r]) (λi=>if i=rs.length then q else f i) w':=by
 refine ⟨by rw [List.map_append,show(rs++ [r]).length=rs.length+1 by simp];exact ho,λi hi=> ?_⟩;by_cases hl:i<rs.length
 .rw [if_neg ae,List.getElem_append_left hl]
  obtain ⟨h1,h2,h3⟩:=h.num i hl;exact ⟨h1.but e (qN.at h1 h3 hK),h2,qN.grow h1 h3 hg⟩
 .obtain rfl:i=rs.length:=by simp at hi;omega
  rw [if_pos rfl,List.getElem_append_right bY];simp only [Nat.sub_self,List.getElem_cons_zero];exact ⟨hr.but e (qN.at hr ha hK),hT,qN.grow hr ha hg⟩
def jR (x:kF) (K:Nat):Prop:=(0<x.rs.length-> ∀p,x.a=some p->p.block≠K)/\ ∀i (hi:i<x.rs.length),qN x.rs[i] (some K)
theorem lD.but {w w':World} {x:kF} {f:Nat->Rat} {K:Nat} (h:lD w x f) (e:aB K w w') (o:jR x K):lD w' x f:=
 ⟨h.le,λi hi=>by
   obtain ⟨b,g,h1,h2,h3⟩:=h.cell i hi;have hb:b≠K:=o.1 ae _ h1;exact ⟨b,g,h1,⟨bU h2.1 e hb,bU h2.2.1 e hb,bU h2.2.2.1 e hb,trivial⟩,h3.but e (o.2 i hi)⟩⟩
structure TW (D T:Nat) (ga:Option Addr) (gc:Nat) (on:List kF) (f:Nat->Nat->Rat) (w:World):Prop where
 own:aL w D 46 1 (.slice ga on.length gc) (on.map kF.cells)
 row: ∀u (hu:u<on.length),lD w on[u] (f u)/\(∀K,K<=T->jR on[u] K)/\ ∀p,ga=some p->jR on[u] p.block
theorem TW.next {D T:Nat} {ga:Option Addr} {gc:Nat} {on:List kF} {f:Nat->Nat->Rat} {w w':World} (h:TW D T ga gc on f w) (x:aB T w w') (hT:T<D):TW D T ga gc on f w':=
 ⟨h.own.but x hT,λu hu=>by
   obtain ⟨h1,h2,h3⟩:=h.row u hu;exact ⟨h1.but x (h2 T bY),h2,h3⟩⟩
theorem lD.yg {w:World} {x:kF} {f:Nat->Rat} {K:Nat} (h:lD w x f) (hK:w.heap.size<=K):jR x K:=
 ⟨λh0 p hp=>by
   obtain ⟨b,g,h1,h2,-⟩:=h.cell 0 h0;rw [hp]at h1;cases h1
   have:b<w.heap.size:=cY h2.1;show b≠K;omega,λi hi=>by obtain ⟨b,g,-,-,h3⟩:=h.cell i hi;exact h3.off hK⟩
theorem TW.push {D T K:Nat} {ga g2:Option Addr} {gc k2:Nat} {on:List kF} {f:Nat->Nat->Rat} {w w':World} {x:kF} {g:Nat->Rat} (h:TW D T ga gc on f w) (hx:lD w x g) (hT: ∀K,K<=T->jR x K) (ha: ∀p,ga=some p->jR x p.block)
 (ho:aL w' D 46 1 (.slice g2 (on.length+1) k2) (on.map kF.cells++ [x.cells])) (hK:K=w.heap.size\/ ∃p,ga=some p/\p.block=K) (hg: ∀p,g2=some p->w.heap.size<=p.block\/ ∃p',ga=some p'/\p'.block=p.block) (e:aB K w w'):TW D T g2 k2 (on++ [x]) (λu=>if u=on.length then g else f u) w':=by
 have key: ∀(y:kF) (q:Nat->Rat),lD w y q->(∀K,K<=T->jR y K)->(∀p,ga=some p->jR y p.block)->lD w' y q/\(∀K,K<=T->jR y K)/\ ∀p,g2=some p->jR y p.block:=λy q h1 h2 h4=>by
  refine ⟨h1.but e ?_,h2,λp hp=> ?_⟩
  .rcases hK with q|⟨p,q1,q2⟩
   .exact h1.yg (Nat.le_of_eq q.symm)
   .rw [<-q2];exact h4 p q1
  .rcases hg p hp with q|⟨p',q1,q2⟩
   .exact h1.yg q
   .rw [<-q2];exact h4 p' q1
 refine ⟨by rw [List.map_append,show(on++ [x]).length=on.length+1 by simp];exact ho,λu hu=> ?_⟩;by_cases hl:u<on.length
 .rw [if_neg ae]
  simp only [List.getElem_append_left hl];obtain ⟨h1,h2,h4⟩:=h.row u hl;exact key _ _ h1 h2 h4
 .obtain rfl:u=on.length:=by simp at hu;omega
  rw [if_pos rfl];simp only [List.getElem_append_right bY,Nat.sub_self,List.getElem_cons_zero];exact key _ _ hx hT ha
def El (K:Nat) (a:Option Addr) (on:List kF):Prop:=(0<on.length-> ∀p,a=some p->p.block≠K)/\ ∀x∈on,jR x K
theorem ow.but {w w':World} {a:Option Addr} {c K:Nat} {on:List kF} {f:Nat->Nat->Rat} (h:ow w a c on f) (e:aB K w w') (o:El K a on):ow w' a c on f:=
 ⟨⟨h.recs.le,h.recs.cap,λi hi=>by
   obtain ⟨b,g,ha,hc⟩:=h.recs.cell i hi;have hb:b≠K:=o.1 (by rw [List.length_map]at hi;omega) _ ha;exact ⟨b,g,ha,λj hj=>bU (hc j hj) e hb⟩⟩,λu hu=>(h.row u hu).but e (o.2 _ (List.getElem_mem hu))⟩
theorem ow.yg {w:World} {a:Option Addr} {c K:Nat} {on:List kF} {f:Nat->Nat->Rat} (h:ow w a c on f) (hK:w.heap.size<=K):El K a on:=
 ⟨λh0 p hp=>by
   obtain ⟨b,o,x,ha,-,-,hc⟩:=h.at 0 h0;rw [hp]at ha;cases ha
   have:b<w.heap.size:=cY (hc w (Ext.refl w));show b≠K;omega,λx hx=>by
   obtain ⟨u,hu,rfl⟩:=List.mem_iff_getElem.1 hx;exact (h.row u hu).yg hK⟩
theorem TW.done {D T:Nat} {ga:Option Addr} {gc:Nat} {on:List kF} {f:Nat->Nat->Rat} {w:World} (h:TW D T ga gc on f w) (hT:T<D):ow w ga gc on f/\ ∀K,K<=T->El K ga on:=by
 obtain ⟨a,c,e,hr,hf⟩:=h.own.recs aq;simp only [Value.slice.injEq]at e;obtain ⟨rfl,-,rfl⟩:=e;exact ⟨⟨hr,λu hu=>(h.row u hu).1⟩,λK hK=>⟨λ_ p hp=>bA (hf p hp),λx hx=>by obtain ⟨u,hu,rfl⟩:=List.mem_iff_getElem.1 hx;exact (h.row u hu).2.1 K hK⟩⟩
theorem RW.done {D T:Nat} {ga:Option Addr} {gc:Nat} {rs:List cH} {f:Nat->Rat} {w:World} (h:RW D T ga gc rs f w) (hT:T<D):lD w ⟨ga,gc,rs⟩ f/\(∀K,K<=T->jR ⟨ga,gc,rs⟩ K)/\Fr D ga:=by
 obtain ⟨a,c,e,hr,hf⟩:=h.own.recs aq;simp only [Value.slice.injEq]at e;obtain ⟨rfl,-,rfl⟩:=e;have h1:=hr.le;rw [List.length_map]at h1;exact ⟨⟨⟨h1,hr.cap⟩,λi hi=>by obtain ⟨b,o,ha,hc⟩:=hr.cs i hi;exact ⟨b,o,ha,hc,(h.num i hi).1⟩⟩,λK hK=>⟨λ_ p hp=>bA (hf p hp),λi hi=>(h.num i hi).2.1 K hK⟩,hf⟩
theorem Em (V:World) (c:ay) (ra:Option Addr) (rc:Nat) (raw:List Int) (hc:bm V c) (hr:aS V ra rc raw) (hh:0<=c.hours/\c.hours<=1000) (hu:c.aA.length<=1000):
 Calls prog 16 #[.agg (C8 c),.slice ra raw.length rc] V λe w'=> ∃(a:Option Addr) (k:Nat) (on:List kF) (f:Nat->Nat->Rat),e= .returned (.slice a on.length k)/\ow w' a k on f/\(∀K,K<V.heap.size->El K a on)/\Ext V w':=by
 try unfold C8
 have SI:=hc.aA.le;have afK:=hc.aA.cap
 rw [List.length_map]at SI;have Vp:=hr.le;have PZ:=hr.cap
 have HR:=ah hr;obtain ⟨NH,hnh⟩: ∃NH:Nat,c.hours=(NH:Int):=⟨c.hours.toNat,ae⟩;have Ti:NH<=1000:=ae;have HNH:=ah hnh;clear hc hr hnh hh;go_enter func16,ntmps16
 go_upto_region 1 with fail
 generalize hW:World.alloc V _=W;obtain ⟨B,hB,x0,A0⟩:=bV hW;rw [<-hB];clear hW;go_wp2_with fail
 refine (L9 W ra rc raw).mono ?_;rintro e Wt ⟨rfl,hT,xx⟩;obtain ⟨T,XC⟩: ∃T,T=W.heap.size:=⟨_,rfl⟩;rw [<-XC]at hT⊢;have zb:B≠T:=bA A0.lt;have K: ∀Y,aB T Wt Y->_:=λY e=>ay.at ((A0.ext xx).but e zb);rw [HNH.o]at K;have oq:Hid (V.heap.size<=T):=by have:=x0.size;show _<=_;omega
 have HX:=ah (x0.trans xx);have yy:=ah hT.lt;have gl:=ah (λU (x:aB T Wt U) (hU:bO U T ra rc raw)=>sK V U T ra rc raw 5 oq.o (x.ext HX.o oq.o) HR.o hU aq aq);have s:=aB.refl T Wt;have HT:=ah hT;clear XC hB x0 A0 xx hT;go_wp2
 go_loopw [6,7] (λv ii wr=> ∃(i:Nat) (ga:Option Addr) (gc:Nat) (on:List kF) (f:Nat->Nat->Rat),i<=c.aA.length/\on.length=i/\ii= .int .i64 i/\v= .slice ga i gc/\TW Wt.heap.size T ga gc on f wr/\bO wr T ra rc raw/\aB T Wt wr) (λ_ ii _=>c.aA.length-(intOf ii).toNat)
 case atStart=>exact ⟨0,none,0,[],λ_ _=>0,aZ,rfl,rfl,rfl,⟨aL.nil _ _ _ _,λu hu=>absurd hu (Nat.not_lt_zero _)⟩,HT.o,s⟩
 case round=>
  clear HT s;obtain ⟨i,ga,gc,on,f,hi,hl,rfl,rfl,hW,hT,s⟩:=hrel;have HW:=ah hW;have HT:=ah hT;have HL:=ah hl
  clear hW hT hl;by_cases hlt:i<c.aA.length
  .have b1:(i:Int)<(c.aA.length:Int):=ae
   have b0:(0:Int)<=(i:Int):=ae;go_wp2_with fail
   obtain ⟨wo,BP⟩: ∃wo:World,wo=wr:=⟨_,rfl⟩;subst BP;have HS:=ah s;have hsz:=s.size;have KG:=HT.o.lt;go_loopw [8,9] (λv ii wr=> ∃(j:Nat) (gb:Option Addr) (gd:Nat) (rs:List cH) (g:Nat->Rat),j<=NH/\rs.length=j/\ii= .int .i64 j/\v= .slice gb j gd/\RW wo.heap.size (wo.heap.size-1) gb gd rs g wr/\bO wr T ra rc raw/\aB T wo wr) (λ_ ii _=>NH-(intOf ii).toNat)
   case atStart=>exact ⟨0,none,0,[],λ_=>0,aZ,rfl,rfl,rfl,⟨aL.nil _ _ _ _,λu hu=>absurd hu (Nat.not_lt_zero _)⟩,HT.o,aB.refl _ _⟩
   case round=>
    clear s;obtain ⟨j,gb,gd,rs,g,hj,EB,rfl,rfl,hRW,Ki,sj⟩:=hrel;have s:=HS.o.trans sj;have Zy:=ah sj;have D7:=ah hRW;have lX:=ah Ki;have XD:=ah EB
    clear sj hRW Ki EB;by_cases hlj:j<NH
    .have b2:(j:Int)<(NH:Int):=ae
     go_wp2_with fail
     refine (gl.o wr s lX.o).mono ?_;rintro e W1 ⟨v,rfl,hv,Ha,x1⟩;have HV:=ah hv;have wm:=ah Ha
     clear hv Ha;go_wp2_with fail
     refine (Oa W1 v 4 HV.o.1 (bA HV.o.2) aq).mono ?_;rintro e W2 ⟨r,rfl,hN,mA,x2⟩;have Kn:=D7.o.next x1 ae (show wo.heap.size-1<wo.heap.size by omega);have hs1:=Zy.o.size;have hs2:=x1.size;have hs3:=x2.size
     have HOF:Hid ((∀K,K<=wo.heap.size-1->qN r (some K))/\ ∀p,gb=some p->qN r (some p.block)):=⟨λK hK=>nM mA ae,λp hp=>nM mA (by have:=(Kn.own.own.lt p.block (by rw [hp];rfl)).2;omega)⟩;have nk:=ah (Kn.next (K:=0) (x2.but 0) aZ ae);have HN:=ah (hN.mono (show 1<=4 by decide));have Ma:=ah (wm.o.ext x2);have acC:=ah (Zy.o.trans (x1.trans (x2.but T)))
     replace s:=(s.trans x1).trans (x2.but T);clear hN mA x1 x2 Kn
     go_wp2_with (first
      |(refine ij rfl 46 _ rfl 92 (.agg kh.toArray) 3 56 underlying46 Tryz.info_rat aq aq [.bool r.s,.slice r.a r.k r.c,.slice r.b r.j r.d] rfl rfl ?_
        intro W3 Xq x3;have OT:=ah Xq;have kR:=ah x3
        have sw:=ah (nk.o.next (K:=0) (x3.but 0) aZ ae);clear Xq x3)
      |(at_builtin
        refine jQ _ _ 46 92 (.agg kh.toArray) 3 56 rfl rfl underlying46 Tryz.info_rat rfl aq aq (ga:=gb) (gc:=gd) (rows:=rs.map cH.cells) (by rw [List.length_map,XD.o];rfl) (by rw [List.length_map];exact sw.o.own) rfl OT.o rfl (by intro u hu;simp only [List.mem_cons,List.not_mem_nil,or_false]at hu;rcases hu with e|e|e<;>(rw [e];rfl)) (by rw [List.length_map,XD.o];omega) (bA kR.o.size) ?_;intro g2 k2 W4 Kb xR hK2 x4;rw [List.length_map]at xR;rw [List.length_map,XD.o];have YU:=ah (sw.o.push (HN.o.ext kR.o) HOF.o.1 HOF.o.2 xR hK2.o.2.1 hK2.o.2.2 x4);have Lx:=ah ((acC.o.trans (kR.o.but T)).over x4 hK2.o.1);have TB:=ah ((Ma.o.ext kR.o).but x4 (bA hK2.o.1));clear xR hK2 x4))
     exact ⟨⟨j+1,g2,k2,rs++ [r],_,hlj,by rw [List.length_append,XD.o];rfl,bf,rfl,YU.o,TB.o,Lx.o⟩,a_⟩
    .obtain rfl:j=NH:=ae
     have hd:=D7.o.done ae;have HD:=ah hd;have hs1:=Zy.o.size;have Ta:=HW.o.next Zy.o yy.o;have HW2:=ah (Ta.next (((Ext.refl wr).alloc (.cells #[.slice gb j gd] 46)).but T) yy.o);have HAO:Hid (∀p,ga=some p->jR ⟨gb,gd,rs⟩ p.block):=λp hp=>hd.2.1 _ (by have:=(HW.o.own.own.lt p.block (by rw [hp];rfl)).2;omega);clear hd Ta;go_wp2_with (at_builtin;refine jQ _ _ 44 46 (.slice none 0 0) 1 24 rfl rfl underlying44 Tryz.info_ratz rfl aq aq (ga:=ga) (gc:=gc) (rows:=on.map kF.cells) (by rw [List.length_map,HL.o];rfl) (by rw [List.length_map];exact HW2.o.own) rfl (aT.alloc wr 46 [.slice gb j gd]) rfl (by intro u hu;rw [List.mem_singleton]at hu;subst hu;rfl) (by rw [List.length_map,HL.o];omega) (by simp;omega) ?_;intro g2 k2 W4 Kb xR hK2 x4)
     rw [List.length_map,show([.slice gb j gd]:List Value)=kF.cells ⟨gb,gd,rs⟩ by rw [kF.cells,XD.o]]at xR;have HW4:=ah (HW2.o.push (HD.o.1.ext ((Ext.refl wr).alloc _)) (λK hK=>HD.o.2.1 K ae) HAO.o xR hK2.o.2.1 hK2.o.2.2 x4);have Lx:=ah ((s.trans (((Ext.refl wr).alloc (.cells #[.slice gb j gd] 46)).but T)).over x4 hK2.o.1);have TB:=ah ((lX.o.ext ((Ext.refl wr).alloc (.cells #[.slice gb j gd] 46))).but x4 (qj hK2.o.1 yy.o));clear xR hK2 x4;exact ⟨⟨i+1,g2,k2,on++ [⟨gb,gd,rs⟩],_,hlt,by rw [List.length_append,HL.o];rfl,bf,by rw [HL.o],HW4.o,TB.o,Lx.o⟩,a_⟩
  .obtain rfl:i=c.aA.length:=ae
   have hd:=HW.o.done yy.o;have HD:=ah hd;clear hd;go_wp2
   go_ret;exact ⟨ga,gc,on,f,by rw [HL.o];rfl,HD.o.1,λK hK=>HD.o.2 K (bA oq.o),s.ext HX.o oq.o⟩
