/- Texts of the proof. -/
import Derived.Test.YtbnamicbjaaelaaGreatRows
import Derived.Test.YtbnamicbjaaelaaGreatChecked
import Derived.Test.YtbnamicbjaaelaaGreatCg8
set_option linter.all false
set_option maxHeartbeats 2000000
set_option maxRecDepth 100000
namespace Go.Proofs.YtbnamicbjaaelaaGreat
open Go.Proofs.Tryz
open Go.RowKit
theorem Db (w:World) (s:Bool) (a b:Option Addr) (k c j d:Nat) (s':Bool) (a' b':Option Addr) (k' c' j' d':Nat) (s1 sR:Bool) (n1 m1 nR dR:Nat) (hN: ∀V,Ext w V->Calls prog 154 #[.agg #[.bool s',.slice a' k' c',.slice b' j' d']] V (eG s1 n1 m1 V)) (hA: ∀V a1 c1 b1 d1,Ext w V->Raw V a1 (len n1) c1 n1->Raw V b1 (len m1) d1 m1->Calls prog 98 #[.agg #[.bool s,.slice a k c,.slice b j d],.agg #[.bool s1,.slice a1 (len n1) c1,.slice b1 (len m1) d1]] V (eG sR nR dR V)):
 Calls prog 96 #[.agg #[.bool s,.slice a k c,.slice b j d],.agg #[.bool s',.slice a' k' c',.slice b' j' d']] w (eG sR nR dR w):=by
 have HN:=ah hN;have HA:=ah hA;clear hN hA
 have YG:=Tryz.rat_num;have YF:=Tryz.rat_den;go_enter func96,ntmps96
 go_wp2_with fail
 obtain ⟨W,hW,x0,Z0,A0,A1,A2⟩:=fC w 92 [.bool s,.slice a k c,.slice b j d] 92 [.bool s',.slice a' k' c',.slice b' j' d'] 92 [.bool false,.slice none 0 0,.slice none 0 0];rw [<-hW];clear hW;obtain ⟨aM,bg,dv,bL,bM,eZ⟩:=aK A0 ar;have z0:=(A0.ext ar).lt;obtain ⟨aU,bq,et,cA,cC,gX⟩:=aK A1 ar;have z1:=(A1.ext ar).lt;obtain ⟨bK,cD,gj,cT,cU,ik⟩:=aK A2 ar;have z2:=(A2.ext ar).lt
 go_region_held3 (λw'=>w'.cell? ⟨w.heap.size,0,none⟩=some (.bool s)/\w'.cell? ⟨w.heap.size,1,none⟩=some (.slice a k c)/\w'.cell? ⟨w.heap.size,2,none⟩=some (.slice b j d)/\w'.cell? ⟨w.heap.size+1,0,none⟩=some (.bool s')/\w'.cell? ⟨w.heap.size+1,1,none⟩=some (.slice a' k' c')/\w'.cell? ⟨w.heap.size+1,2,none⟩=some (.slice b' j' d')) (first|exact ⟨aM,bg,dv,aU,bq,et⟩|(simp [go_sem,aM,bg,dv,aU,bq,et])) (first
  |(go_at_call 154;refine (HN.o _ (by exact x0.trans (ar.drew))).mono ?_;rintro e w1 ⟨a1,c1,b1,d1,rfl,r1,f1,q1,g1,x1⟩;obtain ⟨aM,bg,dv,bL,bM,eZ⟩:=aK A0 ((ar.drew).trans x1);have z0:=(A0.ext ((ar.drew).trans x1)).lt;obtain ⟨aU,bq,et,cA,cC,gX⟩:=aK A1 ((ar.drew).trans x1);have z1:=(A1.ext ((ar.drew).trans x1)).lt;obtain ⟨bK,cD,gj,cT,cU,ik⟩:=aK A2 ((ar.drew).trans x1);have z2:=(A2.ext ((ar.drew).trans x1)).lt)
  |(go_at_call 98;refine (HA.o _ _ _ _ _ (by exact x0.trans ((ar.drew).trans x1)) r1 q1).mono ?_;intro e w2 lL;obtain ⟨a2,c2,b2,d2,rfl,r2,f2,q2,g2,x2⟩:=id lL;obtain ⟨aM,bg,dv,bL,bM,eZ⟩:=aK A0 (((ar.drew).trans x1).trans x2);have z0:=(A0.ext (((ar.drew).trans x1).trans x2)).lt;obtain ⟨aU,bq,et,cA,cC,gX⟩:=aK A1 (((ar.drew).trans x1).trans x2);have z1:=(A1.ext (((ar.drew).trans x1).trans x2)).lt;obtain ⟨bK,cD,gj,cT,cU,ik⟩:=aK A2 (((ar.drew).trans x1).trans x2);have z2:=(A2.ext (((ar.drew).trans x1).trans x2)).lt))
 go_wp2
 exact bodyPost_ret (by simp [results,results96,go_sem,bK,cD,gj]) rfl (eG.bt (lL.base x1) x0.drew (Touch.three _ ae (by rw [World.drew,Z0.o];omega) _ _ _))
theorem vv (w:World) (s:Bool) (a b:Option Addr) (k c j d:Nat) (s':Bool) (a' b':Option Addr) (k' c' j' d':Nat) (s1:Bool) (n1 m1:Nat) (z:Int) (hN: ∀V,Ext w V->Calls prog 96 #[.agg #[.bool s,.slice a k c,.slice b j d],.agg #[.bool s',.slice a' k' c',.slice b' j' d']] V (eG s1 n1 m1 V)) (hA: ∀V a1 c1 b1 d1,Ext w V->Raw V a1 (len n1) c1 n1->Raw V b1 (len m1) d1 m1->Calls prog 45 #[.agg #[.bool s1,.slice a1 (len n1) c1,.slice b1 (len m1) d1]] V λe w'=>e= .returned (.int .i64 z)/\Ext V w'):
 Calls prog 46 #[.agg #[.bool s,.slice a k c,.slice b j d],.agg #[.bool s',.slice a' k' c',.slice b' j' d']] w (λe w'=>e= .returned (.int .i64 z)/\Ext w w'):=by
 have HN:=ah hN;have HA:=ah hA;clear hN hA
 have YG:=Tryz.rat_num;have YF:=Tryz.rat_den;go_enter func46,ntmps46
 go_wp2_with fail
 obtain ⟨W,hW,x0,Z0,A0,A1⟩:=dZ w 92 [.bool s,.slice a k c,.slice b j d] 92 [.bool s',.slice a' k' c',.slice b' j' d'];rw [<-hW];clear hW;have aM:=aK A0 ar;have z0:=(A0.ext ar).lt;have aU:=aK A1 ar;have z1:=(A1.ext ar).lt;refine (HN.o _ x0).mono ?_;rintro e w1 ⟨a1,c1,b1,d1,rfl,r1,f1,q1,g1,x1⟩;go_wp2_with fail
 refine (HA.o _ _ _ _ _ (x0.trans x1) r1 q1).mono ?_;rintro e w2 ⟨rfl,x2⟩;go_wp2
 go_ret;exact ⟨rfl,(x0.trans x1).trans x2⟩
theorem K8 (p q:Rat):(p-q).num.sign=jJ p q:=by
 rcases Fe p q with h|h|h
 .have h1:p<q:=vP.1 ae
  have h2:p-q<0:=by
   rw [Rat.lt_iff_sub_pos]at h1⊢;have e:0-(p-q)=q-p:=by grind
   rw [e];exact h1
  have h3:(p-q).num<0:=by
   apply Int.lt_of_not_ge;intro h4;exact absurd (Rat.num_nonneg.1 h4) (Rat.not_le.2 h2)
  rw [h,Int.sign_eq_neg_one_of_neg h3]
 .have h1:p=q:=AW.1 h
  rw [h,h1,Rat.sub_self];rfl
 .have h1:q<p:=vQ.1 ae
  rw [Rat.lt_iff_sub_pos]at h1
  have h3:0<(p-q).num:=by
   have h4:0<=(p-q).num:=Rat.num_nonneg.2 (Rat.le_of_lt h1)
   have h5:(p-q).num≠0:=λe=>by
    rw [Rat.num_eq_zero.1 e]at h1;exact absurd h1 (Rat.lt_irrefl)
   omega
  rw [h,Int.sign_eq_one_of_pos h3]
theorem Ru (w:World) (s:Bool) (a b:Option Addr) (k c j d n m:Nat) (h:Raw w a k c n) (g:Raw w b j d m) (s':Bool) (a' b':Option Addr) (k' c' j' d' n' m':Nat) (h':Raw w a' k' c' n') (g':Raw w b' j' d' m') (b1:k<200000000) (b2:j<200000000) (EE:k'<200000000) (ED:j'<200000000):Calls prog 96 #[.agg #[.bool s,.slice a k c,.slice b j d],.agg #[.bool s',.slice a' k' c',.slice b' j' d']] w (bG (mkRat (bp s n) m-mkRat (bp s' n') m') w):=by
 obtain ⟨l3,l4⟩:=rO s' n' m' h'.cI g'.cI EE ED;have hN:=λV (hV:Ext w V)=>(Rt V s' a' b' k' c' j' d' n' m' (h'.ext hV) (g'.ext hV) EE ED).mono (λ_ _ hh=>hh.wY);generalize mkRat (bp s' n') m'=Q at*;refine (Db w s a b k c j d s' a' b' k' c' j' d' _ _ _ _ _ _ hN ?_).mono (λ_ _ hh=>hh.Ba);intro V a1 c1 EE d1 hV hR Rs;have:=K7 V s a b k c j d n m (h.ext hV) (g.ext hV) (decide ((-Q).num<0)) a1 EE _ c1 _ d1 _ _ hR Rs b1 b2 (by rw [Rat.neg_num,Int.natAbs_neg];omega) (by rw [Rat.neg_den];omega);rw [fc,Rat.mkRat_self,<-Rat.sub_eq_add_neg]at this;exact this
theorem Fu (w:World) (s:Bool) (a b:Option Addr) (k c j d n m:Nat) (h:Raw w a k c n) (g:Raw w b j d m) (s':Bool) (a' b':Option Addr) (k' c' j' d' n' m':Nat) (h':Raw w a' k' c' n') (g':Raw w b' j' d' m') (b1:k<60000000) (b2:j<60000000) (EE:k'<60000000) (ED:j'<60000000):Calls prog 46 #[.agg #[.bool s,.slice a k c,.slice b j d],.agg #[.bool s',.slice a' k' c',.slice b' j' d']] w λe w'=>e= .returned (.int .i64 (jJ (mkRat (bp s n) m) (mkRat (bp s' n') m')))/\Ext w w':=by
 have hN:=λV (hV:Ext w V)=>(Ru V s a b k c j d n m (h.ext hV) (g.ext hV) s' a' b' k' c' j' d' n' m' (h'.ext hV) (g'.ext hV) ae ae ae ae).mono (λ_ _ hh=>hh.wY)
 have hl:uB (mkRat (bp s n) m-mkRat (bp s' n') m')<150000000:=by
  have h1:=kO (bp s n) m;have h2:=kO (bp s' n') m';rw [bF]at h1 h2;have h3:=N0 (mkRat (bp s n) m) (mkRat (bp s' n') m');have h4:=h.cI;have h5:=g.cI;have h6:=h'.cI;have h7:=g'.cI;omega
 rw [<-K8];generalize mkRat (bp s n) m-mkRat (bp s' n') m'=D at*;have zn:=m_ D;have hl2:=na D;refine vv w s a b k c j d s' a' b' k' c' j' d' _ _ _ _ hN ?_;intro V a1 c1 EE d1 hV hR Rs;have:=G8 V (decide (D.num<0)) a1 EE _ c1 _ d1 _ _ hR Rs ae ae;rw [fc,Rat.mkRat_self]at this;exact this
def qN (r:cH) (row:Option Nat):Prop:=(0<r.k-> ∀x,r.a=some x->some x.block≠row)/\(0<r.j-> ∀x,r.b=some x->some x.block≠row)
open Go.ChangeShapes Go.WideShapes Go.ChangeAt
theorem Tryz.own:ownKnob Tryz.prog.godebug=none:=ax
theorem IL (n:Nat) (hn:n<=128) (w:World):(Instr.makeSlice 22 (.int .i64 (n:Int)) (.int .i64 (n:Int))).run prog w= .ok (.slice (some ⟨w.heap.size,0,none⟩) n n) (w.alloc (.cells (List.replicate n (Value.int .i64 0)).toArray 3)):=by
 obtain ⟨i,h2,h4,h5,h6⟩:=info_parts Tryz.info_int;have hrun:=run_make (P:=prog) w 22 3 i _ underlying22 h2 h4 .i64 .i64 n n ae (Int.le_refl _) (by rw [h6];omega) ae;simp only [Int.toNat_natCast,h5,Nat.mul_one,show(Value.int IntKind.i64 0).cells= #[Value.int IntKind.i64 0]from rfl,pX]at hrun;exact hrun
theorem IM (n:Nat) (hn:n<=128) (w:World):(Instr.makeSlice 46 (.int .i64 (n:Int)) (.int .i64 (n:Int))).run prog w= .ok (.slice (some ⟨w.heap.size,0,none⟩) n n) (w.alloc (.cells (gz n).toArray 92)):=by
 obtain ⟨i,h2,h4,h5,h6⟩:=info_parts Tryz.info_rat;have hrun:=run_make (P:=prog) w 46 92 i _ underlying46 h2 h4 .i64 .i64 n n ae (Int.le_refl _) (by rw [h6];omega) ae;have h3:(Value.agg kh.toArray).cells=kh.toArray:=rfl;rw [h3,h5,Int.toNat_natCast,vo]at hrun;exact hrun
open Go.Deep
def pZ (w:World) (a:Option Addr) (k c:Nat):Prop:=k<=c/\c<=9223372036854775807/\(k<=1000-> ∃n,Raw w a k c n)
structure mq (w:World) (a:Option Addr) (c:Nat) (rs:List cH):Prop where
 le:rs.length<=c
 cap:c<=9223372036854775807
 Kq:a=none->c=0
 cell: ∀i (h:i<rs.length),∃b o,a=some ⟨b,o,none⟩/\w.cell? ⟨b,o+i*3,none⟩=some (.bool rs[i].s)/\w.cell? ⟨b,o+i*3+1,none⟩=some (.slice rs[i].a rs[i].k rs[i].c)/\w.cell? ⟨b,o+i*3+2,none⟩=some (.slice rs[i].b rs[i].j rs[i].d)
 num: ∀i (h:i<rs.length),pZ w rs[i].a rs[i].k rs[i].c/\pZ w rs[i].b rs[i].j rs[i].d
theorem K9 {l:List Value} (h:l.length=3): ∃a b c,l= [a,b,c]:=by
 match l,h with
 | [a,b,c],_=>exact ⟨a,b,c,rfl⟩
section
variable{H:Type} {enc:TypeId×Value->H} {w:World} {base:Nat} {spare:Nat->Bool} {held:Bool}
theorem wf_u32 {n:Int} (h:(Lit.int .u32 n).wf=true):0<=n/\n<4294967296:=by
 simp [Lit.wf,IntKind.min,IntKind.max,IntKind.signed,IntKind.bits]at h;omega
theorem Dc {fuel:Nat} {v:Value} {x:DataW H×List MemPlace} (h:DataW.trod enc prog w base spare held fuel 88 [v]=some x): ∃a k c,v= .slice a k c/\pZ w a k c:=by
 rcases open_ints underlying88 underlying142 ax h with⟨hcs,_⟩|⟨a,len,cap,zs,hcs,_,hl,hm,hz,_,hcell,YJ⟩
 .simp only [List.cons.injEq,and_true]at hcs
  exact ⟨none,0,0,hcs,bY,ae,λ_=>⟨0,Raw.nil w⟩⟩
 .simp only [List.cons.injEq,and_true]at hcs
  refine ⟨some a,len,cap,hcs,hl,by unfold maxLen at hm;omega,λhk=> ?_⟩;have NP:len<=zs.length:=by rw [hz];split<;>omega
  refine ⟨val ((zs.take len).map Int.toNat),(zs.take len).map Int.toNat,by simp;omega,rfl,by simp;omega,by unfold maxLen at hm;omega,by simp;omega,(λe=>by cases e),?_,?_⟩
  .intro n hn
   obtain ⟨z,hz',rfl⟩:=List.mem_map.1 hn;have:=wf_u32 (YJ z (List.mem_of_mem_take hz'));omega
  .intro i hi
   have hi':i<len:=by simp at hi;omega
   have hc:=hcell i ae;obtain ⟨b,off,spot⟩:=a;have hspot:spot=none:=by simpa [Addr.add]using World.cell?_spot (hcell 0 ae)
   subst hspot;refine ⟨b,off,rfl,?_⟩;rw [show(Addr.add ⟨b,off,none⟩ i)=⟨b,off+i,none⟩from by unfold Addr.add;split<;>simp_all]at hc;rw [hc];have hiz:i<zs.length:=ae;have hw:=wf_u32 (YJ zs[i] (List.getElem_mem hiz));have e1:zs.getD i 0=zs[i]:=by simp [hiz]
   have e2:limb ((zs.take len).map Int.toNat) i=zs[i].toNat:=by
    unfold limb;rw [List.getElem?_eq_getElem (by rw [List.length_map,List.length_take];omega),Option.getD_some,List.getElem_map,List.getElem_take]
   rw [e1,e2,Int.toNat_of_nonneg hw.1]
theorem K_ {fuel:Nat} {cs:List Value} {x:DataW H×List MemPlace} (h:DataW.trod enc prog w base spare held fuel 92 cs=some x): ∃r:cH,cs=r.cells/\pZ w r.a r.k r.c/\pZ w r.b r.j r.d:=by
 obtain ⟨xs,n,_,_,hlen,tQ,hf⟩:=DataW.trod_struct underlying92 h;rw [show prog.cellsOf 92=3 from by kernel_rfl]at hlen;obtain ⟨c0,c1,c2,rfl⟩:=K9 hlen;have k53:prog.cellsOf 90=2:=ax;have k51:prog.cellsOf 88=1:=ax;have h0:DataW.trod enc prog w base spare held n 90 (([c0,c1,c2].drop 0).take (prog.cellsOf 90))=xs[0]?:=hf 0 _ rfl;have h1:DataW.trod enc prog w base spare held n 88 (([c0,c1,c2].drop 2).take (prog.cellsOf 88))=xs[1]?:=hf 1 _ rfl;have hx2:xs.length=2:=tQ;rw [k53,List.getElem?_eq_getElem ae]at h0;rw [k51,List.getElem?_eq_getElem ae]at h1;obtain ⟨b,j,d,hb,hr⟩:=Dc (show DataW.trod enc prog w base spare held n 88 [c2]=some xs[1]from h1);obtain ⟨ys,m,_,_,ad0,hyl,hg⟩:=DataW.trod_struct underlying90 (show DataW.trod enc prog w base spare held n 90 [c0,c1]=some xs[0]from h0);have k4:prog.cellsOf 4=1:=ax;have g0:DataW.trod enc prog w base spare held m 4 (([c0,c1].drop 0).take (prog.cellsOf 4))=ys[0]?:=hg 0 _ rfl;have g1:DataW.trod enc prog w base spare held m 88 (([c0,c1].drop 1).take (prog.cellsOf 88))=ys[1]?:=hg 1 _ rfl;have hy2:ys.length=2:=hyl;rw [k4,List.getElem?_eq_getElem ae]at g0;rw [k51,List.getElem?_eq_getElem ae]at g1;obtain ⟨s,hs,_⟩:=DataW.trod_bool underlying4 (show DataW.trod enc prog w base spare held m 4 [c0]=some ys[0]from g0);obtain ⟨a,k,c,ha,pS⟩:=Dc (show DataW.trod enc prog w base spare held m 88 [c1]=some ys[1]from g1);simp only [List.cons.injEq,and_true]at hs;subst hs ha hb;exact ⟨⟨s,a,k,c,b,j,d⟩,rfl,pS,hr⟩
theorem IP {fuel:Nat} {v:Value} {x:DataW H×List MemPlace} (h:DataW.trod enc prog w base spare held fuel 46 [v]=some x): ∃a c rs,v= .slice a rs.length c/\mq w a c rs:=by
 rcases open_slice underlying46 h with⟨hcs,_⟩|⟨a,len,cap,m,n,D,Pl,hcs,hb,hl,hm,J6,hx,hi⟩
 .simp only [List.cons.injEq,and_true]at hcs
  exact ⟨none,0,[],hcs,bY,ae,λ_=>rfl,λi hi=>absurd hi (Nat.not_lt_zero _),λi hi=>absurd hi (Nat.not_lt_zero _)⟩
 .simp only [List.cons.injEq,and_true]at hcs
  have wI:len<=m:=by rw [J6];split<;>omega
  have hC:prog.cellsOf 92=3:=ax
  have hex: ∀i,∃r:cH,i<len->w.cells? base (a.add (i*3)) 3=some r.cells/\pZ w r.a r.k r.c/\pZ w r.b r.j r.d:=by
   intro i;by_cases rP:i<len
   .obtain ⟨cs',h1,h2⟩:=hi i ae
    rw [hC]at h1;obtain ⟨r,rfl,h3,h4⟩:=K_ h2;exact ⟨r,λ_=>⟨h1,h3,h4⟩⟩
   .exact ⟨⟨false,none,0,0,none,0,0⟩,λhh=>absurd hh rP⟩
  obtain ⟨R,hR⟩:=Classical.axiomOfChoice hex;refine ⟨some a,cap,(List.range len).map R,by rw [hcs];simp,by simp;exact hl,by unfold maxLen at hm;omega,(λe=>by cases e),?_,?_⟩
  .intro i hi'
   have rP:i<len:=by simpa using hi'
   obtain ⟨h1,-,-⟩:=hR i rP;obtain ⟨_,YK,hat⟩:=World.cells?_some h1;obtain ⟨b,off,spot⟩:=a
   have hspot:spot=none:=by
    obtain ⟨h0,-,-⟩:=hR 0 ae;obtain ⟨_,_,Rv⟩:=World.cells?_some h0;have:=Rv 0 ae;simp [cH.cells,Addr.add]at this;exact World.cell?_spot this
   subst hspot;have hg:(((List.range len).map R)[i]'hi')=R i:=aG;rw [hg]
   have fM: ∀j,Addr.add (Addr.add ⟨b,off,none⟩ (i*3)) j=⟨b,off+i*3+j,none⟩:=by
    intro j;unfold Addr.add;split<;>split<;>simp_all
   refine ⟨b,off,rfl,?_,?_,?_⟩
   .have:=hat 0 ae;rw [fM]at this;simpa [cH.cells]using this
   .have:=hat 1 ae;rw [fM]at this;simpa [cH.cells]using this
   .have:=hat 2 ae;rw [fM]at this;simpa [cH.cells]using this
  .intro i hi'
   have rP:i<len:=by simpa using hi'
   obtain ⟨-,h2,h3⟩:=hR i rP;have hg:(((List.range len).map R)[i]'hi')=R i:=aG;rw [hg];exact ⟨h2,h3⟩
end
theorem mq.at {w:World} {a:Option Addr} {c:Nat} {rs:List cH} (h:mq w a c rs) (h0:0<rs.length): ∃b o,a=some ⟨b,o,none⟩:=by
 obtain ⟨b,o,ha,_⟩:=h.cell 0 h0;exact ⟨b,o,ha⟩
def G9 (rs:List cH):Prop:=rs.length<=30/\ ∀i (hi:i<rs.length),rs[i].k<=4/\rs[i].j<=4
theorem Bl {w:World} {base base':Nat} {e:TypeId} {s:Nat} {v:Value} {n:Nat} {xs:List Value} (h:w.ownsRow base e s v n xs) (hb:base'<=base):w.ownsRow base' e s v n xs:=by
 obtain ⟨h1,h2⟩:=h;refine ⟨h1,?_⟩;rcases h2 with h2|⟨g,cap,cur,hv,hb',hg,hr⟩
 .exact .inl h2
 .exact .inr ⟨g,cap,cur,hv,Nat.le_trans hb hb',hg,hr⟩
open Go
open Go.Maps Go.ChangeMaps Go.MapKept
structure jZ (w:World) (r:cH) (q:Rat) (L:Nat):Prop where
 rat:jH w r q L
 k:r.k<=L
 j:r.j<=L
theorem jZ.ext {w w':World} {r:cH} {q:Rat} {L:Nat} (h:jZ w r q L) (x:Ext w w'):jZ w' r q L:=⟨h.rat.ext x,h.k,h.j⟩
theorem jZ.mono {w:World} {r:cH} {q:Rat} {L L':Nat} (h:jZ w r q L) (hl:L<=L'):jZ w r q L':=⟨h.rat.mono hl,Nat.le_trans h.k hl,Nat.le_trans h.j hl⟩
theorem jZ.new {w w':World} {q:Rat} {e:Ending} {L:Nat} (h:bG q w e w') (hl:uB q<=L): ∃r:cH,e= .returned (.agg #[.bool r.s,.slice r.a r.k r.c,.slice r.b r.j r.d])/\jZ w' r q L/\fQ w' r q w.heap.size/\Ext w w':=by
 obtain ⟨a,c,a',c',rfl,h1,h2,h3,h4,h5⟩:=h;have hc:fQ w' ⟨decide (q.num<0),a,len q.num.natAbs,c,a',len q.den,c'⟩ q w.heap.size:=⟨rfl,rfl,rfl,h1,h3,h2,h4⟩;have hs:=hc.short hl;exact ⟨⟨decide (q.num<0),a,len q.num.natAbs,c,a',len q.den,c'⟩,rfl,⟨hc.PG.mono hl,hs.1,hs.2⟩,hc,h5⟩
theorem N_ (V:World) (r r':cH) (q q':Rat) (L L':Nat) (h:jZ V r q L) (h':jZ V r' q' L') (hL:L+L'<=1000):
 Calls prog 93 #[.agg #[.bool r.s,.slice r.a r.k r.c,.slice r.b r.j r.d],.agg #[.bool r'.s,.slice r'.a r'.k r'.c,.slice r'.b r'.j r'.d]] V λe w'=> ∃r2:cH,e= .returned (.agg #[.bool r2.s,.slice r2.a r2.k r2.c,.slice r2.b r2.j r2.d])/\jZ w' r2 (q+q') (L+L'+3)/\fQ w' r2 (q+q') V.heap.size/\Ext V w':=by
 have hs:=AY q q';have h1:=h.rat.uB;have h2:=h'.rat.uB
 obtain ⟨⟨n,m,a1,a2,rfl,a3,a4⟩,-,-⟩:=h;obtain ⟨⟨n',m',b1,b2,rfl,b3,b4⟩,-,-⟩:=h';exact (NY V _ _ _ _ _ _ _ _ _ a1 a2 _ _ _ _ _ _ _ _ _ b1 b2 ae ae ae ae).mono λe w' hh=>jZ.new hh ae
theorem oM (V:World) (r r':cH) (q q':Rat) (L L':Nat) (h:jZ V r q L) (h':jZ V r' q' L') (hL:L+L'<=1000):
 Calls prog 41 #[.agg #[.bool r.s,.slice r.a r.k r.c,.slice r.b r.j r.d],.agg #[.bool r'.s,.slice r'.a r'.k r'.c,.slice r'.b r'.j r'.d]] V λe w'=>e= .returned (.int .i64 (jJ q q'))/\Ext V w':=by
 obtain ⟨⟨n,m,a1,a2,rfl,a3,a4⟩,-,-⟩:=h;obtain ⟨⟨n',m',b1,b2,rfl,b3,b4⟩,-,-⟩:=h';exact CP V _ _ _ _ _ _ _ _ _ a1 a2 _ _ _ _ _ _ _ _ _ b1 b2 ae ae ae ae
theorem La (V:World) (r:cH) (q:Rat) (L:Nat) (h:jZ V r q L):
 Calls prog 40 #[.agg #[.bool r.s,.slice r.a r.k r.c,.slice r.b r.j r.d]] V λe w'=>e= .returned (.int .i64 q.num.sign)/\Ext V w':=by
 obtain ⟨⟨n,m,a1,a2,rfl,a3,a4⟩,-,-⟩:=h;exact fw V _ _ _ _ _ _ _ _ _ a1 a2
theorem uG (V:World) (z:Int) (h0:0<=z) (h1:z<=1000):
 Calls prog 39 #[.int .i64 z] V λe w'=> ∃r2:cH,e= .returned (.agg #[.bool r2.s,.slice r2.a r2.k r2.c,.slice r2.b r2.j r2.d])/\jZ w' r2 (z:Rat) 1/\fQ w' r2 (z:Rat) V.heap.size/\Ext V w':=
 (CO V z ae ae).mono λe w' hh=>jZ.new hh (by rw [A_];have:=cI.2 (show z.natAbs<4294967296^1 by omega);omega)
theorem Lb (V:World) (r r':cH) (q q':Rat) (L L':Nat) (h:jZ V r q L) (h':jZ V r' q' L') (hL:L+L'<=1000):
 Calls prog 98 #[.agg #[.bool r.s,.slice r.a r.k r.c,.slice r.b r.j r.d],.agg #[.bool r'.s,.slice r'.a r'.k r'.c,.slice r'.b r'.j r'.d]] V λe w'=> ∃r2:cH,e= .returned (.agg #[.bool r2.s,.slice r2.a r2.k r2.c,.slice r2.b r2.j r2.d])/\jZ w' r2 (q+q') (L+L'+3)/\fQ w' r2 (q+q') V.heap.size/\Ext V w':=by
 have hs:=AY q q';have h1:=h.rat.uB;have h2:=h'.rat.uB
 obtain ⟨⟨n,m,a1,a2,rfl,a3,a4⟩,ak,aj⟩:=h;obtain ⟨⟨n',m',b1,b2,rfl,b3,b4⟩,bk,bj⟩:=h';exact (K7 V _ _ _ _ _ _ _ _ _ a1 a2 _ _ _ _ _ _ _ _ _ b1 b2 ae ae ae ae).mono λe w' hh=>jZ.new hh ae
theorem np (V:World) (r r':cH) (q q':Rat) (L L':Nat) (h:jZ V r q L) (h':jZ V r' q' L') (hL:L+L'<=1000):
 Calls prog 46 #[.agg #[.bool r.s,.slice r.a r.k r.c,.slice r.b r.j r.d],.agg #[.bool r'.s,.slice r'.a r'.k r'.c,.slice r'.b r'.j r'.d]] V λe w'=>e= .returned (.int .i64 (jJ q q'))/\Ext V w':=by
 obtain ⟨⟨n,m,a1,a2,rfl,a3,a4⟩,ak,aj⟩:=h;obtain ⟨⟨n',m',b1,b2,rfl,b3,b4⟩,bk,bj⟩:=h';exact Fu V _ _ _ _ _ _ _ _ _ a1 a2 _ _ _ _ _ _ _ _ _ b1 b2 ae ae ae ae
theorem IQ (V:World) (r:cH) (q:Rat) (L:Nat) (h:jZ V r q L) (hL:L<=1000):
 Calls prog 45 #[.agg #[.bool r.s,.slice r.a r.k r.c,.slice r.b r.j r.d]] V λe w'=>e= .returned (.int .i64 q.num.sign)/\Ext V w':=by
 obtain ⟨⟨n,m,a1,a2,rfl,a3,a4⟩,ak,aj⟩:=h;exact G8 V _ _ _ _ _ _ _ _ _ a1 a2 ae ae
theorem rQ (V:World) (z:Int) (h0:0<=z) (h1:z<=1000):
 Calls prog 47 #[.int .i64 z] V λe w'=> ∃r2:cH,e= .returned (.agg #[.bool r2.s,.slice r2.a r2.k r2.c,.slice r2.b r2.j r2.d])/\jZ w' r2 (z:Rat) 1/\fQ w' r2 (z:Rat) V.heap.size/\Ext V w':=
 (wZ V z ae ae).mono λe w' hh=>jZ.new hh (by rw [A_];have:=cI.2 (show z.natAbs<4294967296^1 by omega);omega)
theorem IU (V:World):Calls prog 97 #[] V λe w'=> ∃r2:cH,e= .returned (.agg #[.bool r2.s,.slice r2.a r2.k r2.c,.slice r2.b r2.j r2.d])/\jZ w' r2 0 1/\fQ w' r2 0 V.heap.size/\Ext V w':=
 (vS V).mono λe w' hh=>jZ.new hh (by have:=A_ 0;rw [show((0:Int):Rat)=0 from rfl]at this;rw [this];decide)
theorem Oa (V:World) (z:Int) (y:Nat) (h0:0<=z) (h1:z<=1000) (h2:y<=1000):
 Calls prog 38 #[.int .i64 z,.int .i64 (y:Int)] V λe w'=> ∃r2:cH,e= .returned (.agg #[.bool r2.s,.slice r2.a r2.k r2.c,.slice r2.b r2.j r2.d])/\jZ w' r2 (mkRat z y) 1/\fQ w' r2 (mkRat z y) V.heap.size/\Ext V w':=
 (U1 V z y ae ae ae).mono λe w' hh=>jZ.new hh (Nat.le_trans (kO z y) (by
   have:=cI.2 (show z.natAbs<4294967296^1 by omega);have:=cI.2 (show y<4294967296^1 by omega);omega))
section
variable(n:Nat) (x:Nat->Rat) (cap:Nat->Int) (need:Int)
def lN (l:List Nat):Rat:=l.foldl (λs u=>s+x u) 0
def nt (m:Nat) (l:List Nat):Int:=(List.range m).foldl (λs u=>if u∈l then s else s+cap u) 0
def lexB:List Nat->List Nat->Bool
 |a::s,b::bs=>if a=b then lexB s bs else decide (a<b)
 |_,_=>false
def iU (a b:List Nat):Bool:=if a.length=b.length then lexB a b else decide (a.length<b.length)
abbrev Ka (l:List Nat):Prop:=l≠ []/\nt cap n l<need/\lN x l<1
abbrev Cj (a b:List Nat):Prop:=lN x a<lN x b\/(lN x a=lN x b/\iU a b=true)
def fD (bD l:List Nat):List Nat:=if Ka n x cap need l/\(bD= []\/Cj x l bD)then l else bD
def lU (bD l:List Nat):List Nat:=if Ka n x cap need l/\(bD= []\/lN x l<lN x bD\/(lN x l=lN x bD/\l.length<bD.length))then l else bD
abbrev jL (aA bD:List Nat):Prop:=1<=lN x aA\/(bD≠ []/\(lN x bD<lN x aA\/(lN x aA=lN x bD/\bD.length<=aA.length)))
def pU:Nat->Nat->List Nat->Int->Int->List Nat->List Nat
 |k,next,aA,out,rest,bD=>
  if need<=out\/jL x aA bD then bD
  else if aA≠ []/\out+rest<need then aA
  else match k with
   |0=>bD
   |k+1=>pU k (next+1) aA (out+cap next) (rest-cap next) (pU k (next+1) (aA++ [next]) out (rest-cap next) bD)
def Ob:Nat->Nat->List Nat->List (List Nat)
 |0,_,aA=> [aA]
 |k+1,next,aA=>Ob k (next+1) (aA++ [next])++Ob k (next+1) aA
def members (b m:Nat):List Nat:=(List.range m).filter λu=>b.testBit u
def vW:List Nat:=(((List.range (2^n)).drop 1).map (λb=>members b n)).foldl (fD n x cap need) []
variable{n:Nat} {x:Nat->Rat} {cap:Nat->Int} {need:Int}
theorem rS (l:List Nat) (u:Nat):lN x (l++ [u])=lN x l+x u:=by simp [lN,List.foldl_append]
theorem iV (m:Nat) (l:List Nat):nt cap (m+1) l=if m∈l then nt cap m l else nt cap m l+cap m:=by simp [nt,List.range_succ,List.foldl_append]
theorem zD (m:Nat) (l l':List Nat) (h: ∀u,u<m->(u∈l↔u∈l')):nt cap m l=nt cap m l':=by
 induction m with
 |zero=>rfl
 |succ m ih=>
  rw [iV,iV,ih λu hu=>h u ae];simp only [h m ae]
theorem Lc: ∀(k next:Nat) (aA:List Nat) (rest:Int),next+k=n->(∀u∈aA,u<next)->(∀u,u<n->0<=x u)->(∀u,u<n->0<=cap u)->rest=nt cap n []-nt cap next []->
 ∃pre,Ob k next aA=pre++ [aA]/\(∀l∈pre,aA.length<l.length/\lN x aA<=lN x l/\nt cap next aA<=nt cap n l)/\nt cap next aA<=nt cap n aA/\nt cap n aA=nt cap next aA+rest:=by
 intro k;induction k with
 |zero=>
  intro next aA rest hn hu hx hc hr;obtain rfl:next=n:=ae;exact ⟨[],rfl,aG,ae,ae⟩
 |succ k ih=>
  intro next aA rest hn hu hx hc hr;have hm:next∉aA:=λh=>Nat.lt_irrefl _ (hu _ h);have h0:nt cap (next+1) []=nt cap next []+cap next:=by rw [iV];simp
  have Dd:=hc next ae;have hxn:=hx next ae
  obtain ⟨p1,e1,a1,b1,c1⟩:=ih (next+1) (aA++ [next]) (rest-cap next) ae (λu h=>by
   rcases List.mem_append.1 h with h|h
   .have:=hu u h;omega
   .rw [List.mem_singleton]at h;omega) hx hc ae
  obtain ⟨p2,e2,a2,b2,c2⟩:=ih (next+1) aA (rest-cap next) ae (λu h=>bA (hu u h)) hx hc ae
  have o1:nt cap (next+1) (aA++ [next])=nt cap next aA:=by
   rw [iV,if_pos aG];exact zD _ _ _ λu h=>by simp;omega
  have o2:nt cap (next+1) aA=nt cap next aA+cap next:=by rw [iV,if_neg hm]
  rw [o1]at a1 b1 c1;rw [o2]at a2 b2 c2
  rw [rS]at a1;refine ⟨p1++ [aA++ [next]]++p2,by rw [Ob,e1,e2];simp,λl hl=> ?_,ae,ae⟩;rcases List.mem_append.1 hl with hl|hl
  .rcases List.mem_append.1 hl with hl|hl
   .have q:=a1 l hl
    rw [List.length_append,List.length_singleton]at q;exact ⟨ae,by grind,q.2.2⟩
   .rw [List.mem_singleton]at hl;subst hl
    rw [rS,List.length_append,List.length_singleton];exact ⟨ae,by grind,b1⟩
  .have q:=a2 l hl
   exact ⟨q.1,q.2.1,ae⟩
theorem Fv (L:List (List Nat)) (bD:List Nat) (h: ∀l∈L,lU n x cap need bD l=bD):L.foldl (lU n x cap need) bD=bD:=by
 induction L with
 |nil=>rfl
 |cons l L ih=>rw [List.foldl_cons,h l aG];exact ih λl hl=>h l (List.mem_cons_of_mem _ hl)
theorem Ld (L:List (List Nat)): ∀bD,L.foldl (lU n x cap need) bD=bD\/L.foldl (lU n x cap need) bD∈L:=by
 induction L with
 |nil=>exact λ_=> .inl rfl
 |cons l L ih=>
  intro bD;rw [List.foldl_cons];rcases ih (lU n x cap need bD l)with h|h
  .rw [h];unfold lU;split
   .exact .inr aG
   .exact .inl rfl
  .exact .inr (List.mem_cons_of_mem _ h)
theorem Le: ∀(k next:Nat) (aA:List Nat) (out rest:Int) (bD:List Nat),next+k=n->(∀u∈aA,u<next)->(∀u,u<n->0<=x u)->(∀u,u<n->0<=cap u)->rest=nt cap n []-nt cap next []->out=nt cap next aA->
 pU x cap need k next aA out rest bD=(Ob k next aA).foldl (lU n x cap need) bD:=by
 intro k;induction k with
 |zero=>
  intro next aA out rest bD hn hu hx hc hr ho;obtain rfl:next=n:=ae;unfold pU;simp only [Ob,List.foldl_cons,List.foldl_nil];unfold lU Ka jL;rw [<-ho];have:rest=0:=ae;subst this;grind
 |succ k ih=>
  intro next aA out rest bD hn hu hx hc hr ho;have hm:next∉aA:=λh=>Nat.lt_irrefl _ (hu _ h);obtain ⟨pre,e,hp,hb,hc2⟩:=Lc (x:=x) (k+1) next aA rest hn hu hx hc hr;unfold pU;split
  .rename_i h
   symm
   refine Fv _ _ λl hl=> ?_;rw [e]at hl;unfold lU Ka;unfold jL at h;rcases List.mem_append.1 hl with hl|hl
   .have q:=hp l hl
    grind
   .rw [List.mem_singleton]at hl;subst hl
    grind
  .rename_i h
   split
   .rename_i h2
    rw [e,List.foldl_append,List.foldl_cons,List.foldl_nil];have q:=Ld (n:=n) (x:=x) (cap:=cap) (need:=need) pre bD;unfold jL at h;generalize pre.foldl (lU n x cap need) bD=b at q;unfold lU Ka;rcases q with q|q
    .subst q;grind
    .have q2:=hp b q;grind
   .have h0:nt cap (next+1) []=nt cap next []+cap next:=by rw [iV];simp
    have o1:nt cap (next+1) (aA++ [next])=nt cap next aA:=by
     rw [iV,if_pos aG];exact zD _ _ _ λu h=>by simp;omega
    have o2:nt cap (next+1) aA=nt cap next aA+cap next:=by rw [iV,if_neg hm]
    simp only []
    rw [Ob,List.foldl_append,ih (next+1) (aA++ [next]) out (rest-cap next) bD ae (λu h=>by
     rcases List.mem_append.1 h with h|h
     .have:=hu u h;omega
     .rw [List.mem_singleton]at h;omega) hx hc ae ae,ih (next+1) aA _ _ _ ae (λu h=>bA (hu u h)) hx hc ae ae]
theorem qw: ∀a b:List Nat,lexB a b=true->lexB b a=false
 | [],_,h=>by simp [lexB]at h
 |_::_,[],h=>by simp [lexB]at h
 |a::s,b::bs,h=>by
  simp only [lexB]at h⊢;by_cases e:a=b
  .subst e;simp only [if_true]at h⊢;exact qw s bs h
  .rw [if_neg e]at h;rw [if_neg (Ne.symm e)];simp at h⊢;omega
theorem xe: ∀a b c:List Nat,lexB a b=true->lexB b c=true->lexB a c=true
 | [],_,_,h,_=>by simp [lexB]at h
 |_::_,[],_,h,_=>by simp [lexB]at h
 |_::_,_::_,[],_,h=>by simp [lexB]at h
 |a::s,b::bs,c::cs,h,g=>by
  simp only [lexB]at h g⊢;by_cases e:a=b
  .subst e
   simp only [if_true]at h;by_cases e2:a=c
   .subst e2;simp only [if_true]at g⊢;exact xe s bs cs h g
   .rw [if_neg e2]at g⊢;exact g
  .rw [if_neg e]at h
   by_cases e2:b=c
   .subst e2;rw [if_neg e];exact h
   .rw [if_neg e2]at g
    simp at h g;rw [if_neg ae];simp;omega
theorem xg: ∀a b:List Nat,a.length=b.length->a=b\/lexB a b=true\/lexB b a=true
 | [],[],_=> .inl rfl
 | [],_::_,h=>by simp at h
 |_::_,[],h=>by simp at h
 |a::s,b::bs,h=>by
  simp only [lexB];by_cases e:a=b
  .subst e
   simp only [if_true];rcases xg s bs (by simpa using h)with q|q|q
   .exact .inl (by rw [q])
   .exact .inr (.inl q)
   .exact .inr (.inr q)
  .rw [if_neg e,if_neg (Ne.symm e)];simp;omega
theorem De (a b:List Nat) (h:iU a b=true):iU b a=false:=by
 unfold iU at h⊢;by_cases e:a.length=b.length
 .rw [if_pos e]at h;rw [if_pos e.symm];exact qw a b h
 .rw [if_neg e]at h;rw [if_neg (Ne.symm e)];simp at h⊢;omega
theorem Df (a b c:List Nat) (h:iU a b=true) (g:iU b c=true):iU a c=true:=by
 unfold iU at h g⊢;by_cases e:a.length=b.length
 .rw [if_pos e]at h
  by_cases e2:b.length=c.length
  .rw [if_pos e2]at g;rw [if_pos ae];exact xe a b c h g
  .rw [if_neg e2]at g;rw [if_neg ae];simp at g⊢;omega
 .rw [if_neg e]at h
  simp at h;by_cases e2:b.length=c.length
  .rw [if_neg ae];simp;omega
  .rw [if_neg e2]at g;simp at g;rw [if_neg ae];simp;omega
theorem Dg (a b:List Nat):a=b\/iU a b=true\/iU b a=true:=by
 unfold iU;by_cases e:a.length=b.length
 .rw [if_pos e,if_pos e.symm];exact xg a b e
 .rw [if_neg e,if_neg (Ne.symm e)];simp;omega
theorem IV (a b:List Nat) (h:Cj x a b): ¬Cj x b a:=by
 unfold Cj at*;have q:=De a b;grind
theorem zE (a b c:List Nat) (h:Cj x a b) (g:Cj x b c):Cj x a c:=by
 unfold Cj at*;have q:=Df a b c;grind
theorem IW (a b:List Nat):a=b\/Cj x a b\/Cj x b a:=by
 unfold Cj;have q:=Dg a b;grind
theorem xi (L:List (List Nat)): ∀bD,(bD= []\/Ka n x cap need bD)-> ∃r,L.foldl (fD n x cap need) bD=r/\(r=bD\/r∈L)/\(r= []\/Ka n x cap need r)/\(r= []->bD= [])/\(bD≠ []->bD=r\/Cj x r bD)/\ ∀l∈L,Ka n x cap need l->r≠ []/\(l=r\/Cj x r l):=by
 induction L with
 |nil=>exact λbD hb=>⟨bD,rfl,.inl rfl,hb,id,λ_=> .inl rfl,aG⟩
 |cons l L ih=>
  intro bD hb;rw [List.foldl_cons];by_cases hs:Ka n x cap need l/\(bD= []\/Cj x l bD)
  .rw [show fD n x cap need bD l=l from if_pos hs]
   obtain ⟨r,h1,h2,h3,h4,h5,h6⟩:=ih l (.inr hs.1);refine ⟨r,h1,.inr (by rcases h2 with h|h;rw [h];simp;exact List.mem_cons_of_mem _ h),h3,λe=>absurd (h4 e) hs.1.1,λe=> ?_,λy hy oy=> ?_⟩
   .have q:=h5 hs.1.1
    have q2:=hs.2.resolve_left e;rcases q with q|q
    .right;rw [<-q];exact q2
    .right;exact zE _ _ _ q q2
   .rcases List.mem_cons.1 hy with rfl|hy
    .exact ⟨λe=>hs.1.1 (h4 e),h5 hs.1.1⟩
    .exact h6 y hy oy
  .rw [show fD n x cap need bD l=bD from if_neg hs]
   obtain ⟨r,h1,h2,h3,h4,h5,h6⟩:=ih bD hb;refine ⟨r,h1,h2.imp_right (List.mem_cons_of_mem _),h3,h4,h5,λy hy oy=> ?_⟩;rcases List.mem_cons.1 hy with rfl|hy
   .have nb:bD≠ []:=λe=>hs ⟨oy,.inl e⟩
    have nl: ¬Cj x y bD:=λe=>hs ⟨oy,.inr e⟩;refine ⟨λe=>nb (h4 e),?_⟩;rcases IW (x:=x) y bD with q|q|q
    .rw [q];exact h5 nb
    .exact absurd q nl
    .rcases h5 nb with e|e
     .right;rw [<-e];exact q
     .right;exact zE _ _ _ e q
   .exact h6 y hy oy
theorem Lf {L L':List (List Nat)} (h:L.Perm L'):L.foldl (fD n x cap need) []=L'.foldl (fD n x cap need) []:=by
 obtain ⟨r,h1,h2,h3,-,-,h6⟩:=xi (n:=n) (x:=x) (cap:=cap) (need:=need) L [] (.inl rfl);obtain ⟨r',g1,g2,g3,-,-,g6⟩:=xi (n:=n) (x:=x) (cap:=cap) (need:=need) L' [] (.inl rfl);rw [h1,g1];by_cases e:r= []
 .by_cases e':r'= []
  .rw [e,e']
  .exact absurd e (h6 r' (h.mem_iff.2 (g2.resolve_left e')) (g3.resolve_left e')).1
 .have q:=g6 r (h.mem_iff.1 (h2.resolve_left e)) (h3.resolve_left e)
  have q':=h6 r' (h.mem_iff.2 (g2.resolve_left q.1)) (g3.resolve_left q.1);rcases q.2 with e2|e2
  .exact e2
  .rcases q'.2 with e3|e3
   .exact e3.symm
   .exact absurd e3 (IV _ _ e2)
theorem Lg (L:List (List Nat)): ∀bD,(bD≠ []-> ∀l∈L,bD.length=l.length->lexB bD l=true)->L.Pairwise (λa b=>a.length=b.length->lexB a b=true)->L.foldl (lU n x cap need) bD=L.foldl (fD n x cap need) bD:=by
 induction L with
 |nil=>exact λ_ _ _=>rfl
 |cons l L ih=>
  intro bD hb hp;rw [List.foldl_cons,List.foldl_cons]
  have hs:lU n x cap need bD l=fD n x cap need bD l:=by
   unfold lU fD;by_cases h0:bD= []
   .simp only [h0,true_or]
   .have q:=qw bD l
    have q2:=hb h0 l aG
    have q3:(iU l bD=true)↔l.length<bD.length:=by
     unfold iU;by_cases e:l.length=bD.length
     .rw [if_pos e,q (q2 e.symm)];simp [e]
     .rw [if_neg e];simp
    simp only [Cj,q3]
  rw [hs];rw [List.pairwise_cons]at hp;refine ih _ (λh0 y hy=> ?_) hp.2;unfold fD at h0⊢;split
  .exact hp.1 y hy
  .rename_i h;rw [if_neg h]at h0;exact hb h0 y (List.mem_cons_of_mem _ hy)
theorem Lh: ∀m,m<=4->(Ob m 0 []).Pairwise (λa b=>a.length=b.length->lexB a b=true)/\(Ob m 0 []).Perm ((List.range (2^m)).map (λb=>members b m)):=by decide+kernel
theorem Li: ∀m,m<=4->(List.range (2^m)).map (λb=>members b m)= []::((List.range (2^m)).drop 1).map (λb=>members b m):=by decide+kernel
theorem Lj (hn:n<=4) (hx: ∀u,u<n->0<=x u) (hc: ∀u,u<n->0<=cap u):pU x cap need n 0 [] 0 (nt cap n []) []=vW n x cap need:=by
 rw [Le (n:=n) n 0 [] 0 _ [] ae aG hx hc (by simp [nt]) (by simp [nt])];rw [Lg]
 .rw [Lf (Lh n hn).2,Li n hn,List.foldl_cons]
  rw [show fD n x cap need [] []= []from by unfold fD;split<;>rfl];rfl
 .exact λh=>absurd rfl h
 .exact (Lh n hn).1
end
abbrev i64 (x:Int):Value:= .int .i64 x
structure ct (w:World) (m:Nat) (a:Option Addr) (c:Nat) (rows:List (List Value)):Prop where
 le:rows.length<=c
 cap:c<=9223372036854775807
 cell: ∀i (h:i<rows.length),∃b o,a=some ⟨b,o,none⟩/\ ∀j (hj:j<(rows[i]).length),w.cell? ⟨b,o+i*m+j,none⟩=some (rows[i])[j]
theorem ct.keeps {w w':World} {m:Nat} {a:Option Addr} {c:Nat} {rows:List (List Value)} (h:ct w m a c rows) (e:lO w w'):ct w' m a c rows:=
 ⟨h.le,h.cap,λi hi=>by obtain ⟨b,o,ha,hc⟩:=h.cell i hi;exact ⟨b,o,ha,λj hj=>e _ _ (hc j hj)⟩⟩
theorem ct.ext {w w':World} {m:Nat} {a:Option Addr} {c:Nat} {rows:List (List Value)} (h:ct w m a c rows) (e:Ext w w'):ct w' m a c rows:=h.keeps e.keeps
structure dK where
 name:ByteArray
 da:Option Addr
 dc:Nat
 cV:List Int
 jF:Int
def dK.cells (b:dK):List Value:= [.string b.name,.slice b.da b.cV.length b.dc,i64 b.jF]
structure bn where
 name:ByteArray
 dL:Int
 ld:Int
 rn:Int
 rd:Int
 uH:Int
 yt:Int
 vw:Int
 Bn:Int
 dO:Int
 kK:Int
 aa:Option Addr
 ac:Nat
 away:List Int
def bn.cells (l:bn):List Value:= [.string l.name,i64 l.dL,i64 l.ld,i64 l.rn,i64 l.rd,i64 l.uH,i64 l.yt,i64 l.vw,i64 l.Bn,i64 l.dO,i64 l.kK,.slice l.aa l.away.length l.ac]
structure dy where
 width:Int
 bE:Int
def dy.cells (s:dy):List Value:= [i64 s.width,i64 s.bE]
structure aP where
 name:ByteArray
 fE:Int
 min:Int
 max:Int
 sa:Option Addr
 sc:Nat
 aY:List dy
 fF:Int
 fG:Int
 dA:Int
 cQ:Int
 dB:Int
 eK:Int
 dC:Int
 startTime:Int
 dX:Int
 dD:Int
 dE:Int
 aX:Int
 bR:Int
 aa:Option Addr
 ac:Nat
 away:List Int
 state:Int
 hours:Int
 output:Int
def aP.cells (u:aP):List Value:= [.string u.name,i64 u.fE,i64 u.min,i64 u.max,.slice u.sa u.aY.length u.sc,i64 u.fF,i64 u.fG,i64 u.dA,i64 u.cQ,i64 u.dB,i64 u.eK,i64 u.dC,i64 u.startTime,i64 u.dX,i64 u.dD,i64 u.dE,i64 u.aX,i64 u.bR,.slice u.aa u.away.length u.ac,i64 u.state,i64 u.hours,i64 u.output]
structure bW where
 name:ByteArray
 fE:Int
 capacity:Int
 initial:Int
 final:Int
 gN:Int
 discharge:Int
 en:Int
 ed:Int
def bW.cells (s:bW):List Value:= [.string s.name,i64 s.fE,i64 s.capacity,i64 s.initial,i64 s.final,i64 s.gN,i64 s.discharge,i64 s.en,i64 s.ed]
structure fp where
 name:ByteArray
 fE:Int
 ia:Option Addr
 ic:Nat
 imp:List Int
 ea:Option Addr
 ec:Nat
 exp:List Int
 pa:Option Addr
 pc:Nat
 bE:List Int
def fp.cells (t:fp):List Value:= [.string t.name,i64 t.fE,.slice t.ia t.imp.length t.ic,.slice t.ea t.exp.length t.ec,.slice t.pa t.bE.length t.pc]
structure cj where
 unit:Int
 up:Int
 down:Int
def cj.cells (m:cj):List Value:= [i64 m.unit,i64 m.up,i64 m.down]
structure cJ where
 name:ByteArray
 la:Option Addr
 lc:Nat
 lines:List Int
 cd:Bool
 ma:Option Addr
 mc:Nat
 moves:List cj
def cJ.cells (o:cJ):List Value:= [.string o.name,.slice o.la o.lines.length o.lc,.bool o.cd,.slice o.ma o.moves.length o.mc]
structure ay where
 hours:Int
 ra:Option Addr
 rc:Nat
 aX:List Int
 ba:Option Addr
 bc:Nat
 aF:List dK
 la:Option Addr
 lc:Nat
 lines:List bn
 ua:Option Addr
 uc:Nat
 aA:List aP
 sa:Option Addr
 sc:Nat
 stores:List bW
 ta:Option Addr
 tc:Nat
 bh:List fp
 oa:Option Addr
 oc:Nat
 outs:List cJ
def ay.cells (c:ay):List Value:= [i64 c.hours,.slice c.ra c.aX.length c.rc,.slice c.ba c.aF.length c.bc,.slice c.la c.lines.length c.lc,.slice c.ua c.aA.length c.uc,.slice c.sa c.stores.length c.sc,.slice c.ta c.bh.length c.tc,.slice c.oa c.outs.length c.oc]
abbrev C8 (c:ay):Array Value:= #[i64 c.hours,.slice c.ra c.aX.length c.rc,.slice c.ba c.aF.length c.bc,.slice c.la c.lines.length c.lc,.slice c.ua c.aA.length c.uc,.slice c.sa c.stores.length c.sc,.slice c.ta c.bh.length c.tc,.slice c.oa c.outs.length c.oc]
def gO (l:List Int):Prop:= ∀x∈l,b_ x
structure bm (w:World) (c:ay):Prop where
 hours:b_ c.hours
 aX:aS w c.ra c.rc c.aX
 aF:ct w 3 c.ba c.bc (c.aF.map dK.cells)
 fE: ∀b∈c.aF,b.name.size<=maxLen/\aS w b.da b.dc b.cV/\b_ b.jF
 lines:ct w 12 c.la c.lc (c.lines.map bn.cells)
 line: ∀l∈c.lines,l.name.size<=maxLen/\aS w l.aa l.ac l.away/\gO [l.dL,l.ld,l.rn,l.rd,l.uH,l.yt,l.vw,l.Bn,l.dO,l.kK]
 aA:ct w 22 c.ua c.uc (c.aA.map aP.cells)
 unit: ∀u∈c.aA,u.name.size<=maxLen/\aS w u.aa u.ac u.away/\ct w 2 u.sa u.sc (u.aY.map dy.cells)/\(∀s∈u.aY,gO [s.width,s.bE])/\gO [u.fE,u.min,u.max,u.fF,u.fG,u.dA,u.cQ,u.dB,u.eK,u.dC,u.startTime,u.dX,u.dD,u.dE,u.aX,u.bR,u.state,u.hours,u.output]
 stores:ct w 9 c.sa c.sc (c.stores.map bW.cells)
 store: ∀s∈c.stores,s.name.size<=maxLen/\gO [s.fE,s.capacity,s.initial,s.final,s.gN,s.discharge,s.en,s.ed]
 bh:ct w 5 c.ta c.tc (c.bh.map fp.cells)
 tie: ∀t∈c.bh,t.name.size<=maxLen/\aS w t.ia t.ic t.imp/\aS w t.ea t.ec t.exp/\aS w t.pa t.pc t.bE/\b_ t.fE
 outs:ct w 4 c.oa c.oc (c.outs.map cJ.cells)
 o: ∀o∈c.outs,o.name.size<=maxLen/\aS w o.la o.lc o.lines/\ct w 3 o.ma o.mc (o.moves.map cj.cells)/\ ∀m∈o.moves,gO [m.unit,m.up,m.down]
theorem bm.ext {w w':World} {c:ay} (h:bm w c) (e:Ext w w'):bm w' c:=
 ⟨h.hours,h.aX.ext e,h.aF.ext e,λb hb=>⟨(h.fE b hb).1,(h.fE b hb).2.1.ext e,(h.fE b hb).2.2⟩,h.lines.ext e,λl hl=>⟨(h.line l hl).1,(h.line l hl).2.1.ext e,(h.line l hl).2.2⟩,
   h.aA.ext e,λu hu=>⟨(h.unit u hu).1,(h.unit u hu).2.1.ext e,(h.unit u hu).2.2.1.ext e,(h.unit u hu).2.2.2⟩,h.stores.ext e,h.store,h.bh.ext e,
   λt ht=>⟨(h.tie t ht).1,(h.tie t ht).2.1.ext e,(h.tie t ht).2.2.1.ext e,(h.tie t ht).2.2.2.1.ext e,(h.tie t ht).2.2.2.2⟩,h.outs.ext e,λo ho=>⟨(h.o o ho).1,(h.o o ho).2.1.ext e,(h.o o ho).2.2.1.ext e,(h.o o ho).2.2.2⟩⟩
structure St where
 kind:Int
 idx:Int
 field:Int
 err:Int
def St.cells (s:St):List Value:= [i64 s.kind,i64 s.idx,i64 s.field,i64 s.err]
def St.at (s:St) (kind idx:Int):St:=if s.err=0 then⟨kind,idx,0,0⟩else s
def St.need (s:St) (ok:Bool) (field e:Int):St:=if s.err=0/\ok=false then⟨s.kind,s.idx,field,e⟩else s
def St.within (s:St) (field n least most:Int):St:=s.need (decide (least<=n)&&decide (n<=most)) field 3
def St.fE (s:St) (c:ay) (field i:Int):St:=s.need (decide (0<=i)&&decide (i<c.aF.length)) field 12
def St.each (s:St) (l:List Int) (field least most:Int):St:=l.foldl (λs n=>s.within field n least most) s
def St.nw (s:St) (c:ay) (field:Int) (l:List Int) (least most:Int):St:=(s.need (decide ((l.length:Int)=c.hours)) field 4).each l field least most
theorem St.iy (s:St) (ok:Bool) (f e:Int) (h:s.err≠0):s.need ok f e=s:=by unfold St.need;rw [if_neg (λh'=>h h'.1)]
theorem St.Fw (s:St) (f n a b:Int) (h:s.err≠0):s.within f n a b=s:=St.iy s _ _ _ h
theorem St.Lk (s:St) (l:List Int) (f a b:Int) (h:s.err≠0):s.each l f a b=s:=by
 unfold St.each;induction l with
 |nil=>rfl
 |cons x l ih=>rw [List.foldl_cons,St.Fw s f x a b h,ih]
def Bo (c:ay) (s:St):List Value:=c.cells++s.cells
abbrev iW (w:World) (K:Nat) (c:ay) (s:St):Prop:=aT w K 129 (Bo c s)
def mI (V:World) (K:Nat) (c:ay) (s:St) (e:Ending) (w':World):Prop:=e= .returned (.tuple #[])/\iW w' K c s/\aB K V w'
theorem aB.set {b:Nat} {w w':World} (h:aB b w w') {p:Addr} (hp:p.block=b) (v:Value):aB b w (w'.setCell p v):=
 ⟨h.os,h.tape,h.output,h.drawn,by simpa [World.setCell]using h.size,λk hk hb=>by rw [Below.heap_setCell _ _ _ _ ae];exact h.block k hk hb⟩
theorem aB.ez {b o:Nat} {w w':World} {v:Value} (h:aB b w w'):aB b w (w'.setCell ⟨b,o,none⟩ v):=h.set rfl v
theorem oN {V:World} {K:Nat} {c:ay} {s:St} (h:iW V K c s):V.cell? ⟨K,8,none⟩=some (i64 s.kind)/\V.cell? ⟨K,9,none⟩=some (i64 s.idx)/\V.cell? ⟨K,10,none⟩=some (i64 s.field)/\V.cell? ⟨K,11,none⟩=some (i64 s.err)/\V.frozen? ⟨K,8,none⟩=false/\V.frozen? ⟨K,9,none⟩=false/\V.frozen? ⟨K,10,none⟩=false/\V.frozen? ⟨K,11,none⟩=false:=
 ⟨(h.cell 8).trans rfl,(h.cell 9).trans rfl,(h.cell 10).trans rfl,(h.cell 11).trans rfl,h.frozen 8,h.frozen 9,h.frozen 10,h.frozen 11⟩
theorem eM {V:World} {K:Nat} {c:ay} {s:St} (h:iW V K c s):V.cell? ⟨K,0,none⟩=some (i64 c.hours)/\V.cell? ⟨K,1,none⟩=some (.slice c.ra c.aX.length c.rc)/\V.cell? ⟨K,2,none⟩=some (.slice c.ba c.aF.length c.bc)/\V.cell? ⟨K,3,none⟩=some (.slice c.la c.lines.length c.lc)/\V.cell? ⟨K,4,none⟩=some (.slice c.ua c.aA.length c.uc)/\V.cell? ⟨K,5,none⟩=some (.slice c.sa c.stores.length c.sc)/\V.cell? ⟨K,6,none⟩=some (.slice c.ta c.bh.length c.tc)/\V.cell? ⟨K,7,none⟩=some (.slice c.oa c.outs.length c.oc):=
 ⟨(h.cell 0).trans rfl,(h.cell 1).trans rfl,(h.cell 2).trans rfl,(h.cell 3).trans rfl,(h.cell 4).trans rfl,(h.cell 5).trans rfl,(h.cell 6).trans rfl,(h.cell 7).trans rfl⟩
theorem fH (V:World) (K:Nat) (c:ay) (s:St) (ok:Bool) (field e:Int) (h:iW V K c s):
 Calls prog 114 #[.pointer (some ⟨K,0,none⟩),.bool ok,i64 field,i64 e] V λe' w'=>mI V K c (s.need ok field e) e' w':=by
 obtain ⟨-,-,c10,c11,-,-,f10,f11⟩:=oN h;have HK:=ah h;clear h;by_cases h0:s.err=0
 .have t1:(s.err==0)=true:=by simpa using h0
  cases ok with
  |true=>
   go_enter func114,ntmps114
   go_wp2_with fail
   refine bodyPost_end (v:= .tuple #[]) ax rfl ⟨rfl,?_,aB.refl _ _⟩;unfold St.need;simp;exact HK.o
  |false=>
   have HW:Hid (iW ((V.setCell ⟨K,10,none⟩ (i64 field)).setCell ⟨K,11,none⟩ (i64 e)) K c (s.need false field e)):=by
    show iW _ _ _ _;unfold St.need;rw [if_pos ⟨h0,rfl⟩];exact (HK.o.set 10 _).set 11 _
   go_enter func114,ntmps114
   go_wp2
   exact bodyPost_end (v:= .tuple #[]) ax rfl ⟨rfl,HW.o,(aB.refl _ _).ez.ez⟩
 .have t1:(s.err==0)=false:=by simpa using h0
  have HN:=ah (St.iy s ok field e h0);clear h0;go_enter func114,ntmps114
  go_wp2
  exact bodyPost_end (v:= .tuple #[]) ax rfl ⟨rfl,by rw [HN.o];exact HK.o,aB.refl _ _⟩
theorem Dh (V:World) (K:Nat) (c:ay) (s:St) (kind idx:Int) (h:iW V K c s):
 Calls prog 111 #[.pointer (some ⟨K,0,none⟩),i64 kind,i64 idx] V λe' w'=>mI V K c (s.at kind idx) e' w':=by
 have c8:=oN h;have HK:=ah h;clear h;by_cases h0:s.err=0
 .have t1:(s.err==0)=true:=by simpa using h0
  have HW:Hid (iW (((V.setCell ⟨K,8,none⟩ (i64 kind)).setCell ⟨K,9,none⟩ (i64 idx)).setCell ⟨K,10,none⟩ (i64 0)) K c (s.at kind idx)):=by
   show iW _ _ _ _;unfold St.at;rw [if_pos h0];have h5:=((HK.o.set 8 (i64 kind)).set 9 (i64 idx)).set 10 (i64 0);have e:((((Bo c s).set 8 (i64 kind)).set 9 (i64 idx)).set 10 (i64 0))=Bo c ⟨kind,idx,0,s.err⟩:=rfl;rw [e,h0]at h5;exact h5
  go_enter func111,ntmps111
  go_wp2
  exact bodyPost_end (v:= .tuple #[]) ax rfl ⟨rfl,HW.o,(aB.refl _ _).ez.ez.ez⟩
 .have t1:(s.err==0)=false:=by simpa using h0
  have HN:Hid (s.at kind idx=s):=by show s.at kind idx=s;unfold St.at;rw [if_neg h0]
  clear h0;go_enter func111,ntmps111
  go_wp2
  exact bodyPost_end (v:= .tuple #[]) ax rfl ⟨rfl,by rw [HN.o];exact HK.o,aB.refl _ _⟩
theorem iX (V:World) (K:Nat) (c:ay) (s:St) (field n least most:Int) (h:iW V K c s):
 Calls prog 112 #[.pointer (some ⟨K,0,none⟩),i64 field,i64 n,i64 least,i64 most] V λe' w'=>mI V K c (s.within field n least most) e' w':=by
 have HC:=ah (λok=>fH V K c s ok field 3 h);unfold St.within;clear h;cases d1:decide (least<=n)with
 |false=>
  simp only [Bool.false_and];go_enter func112,ntmps112
  go_wp2_with fail
  refine (HC.o _).mono ?_;rintro e w' ⟨rfl,h1,h2⟩;go_wp2
  exact bodyPost_end (v:= .tuple #[]) ax rfl ⟨rfl,h1,h2⟩
 |true=>
  simp only [Bool.true_and];go_enter func112,ntmps112
  go_wp2_with fail
  refine (HC.o _).mono ?_;rintro e w' ⟨rfl,h1,h2⟩;go_wp2
  exact bodyPost_end (v:= .tuple #[]) ax rfl ⟨rfl,h1,h2⟩
theorem G_ (V:World) (K:Nat) (c:ay) (s:St) (field i:Int) (h:iW V K c s):
 Calls prog 118 #[.pointer (some ⟨K,0,none⟩),i64 field,i64 i] V λe' w'=>mI V K c (s.fE c field i) e' w':=by
 have HC:=ah (λok=>fH V K c s ok field 12 h);obtain ⟨-,-,c2,-⟩:=eM h;unfold St.fE;clear h;cases d1:decide (0<=i)with
 |false=>
  simp only [Bool.false_and];go_enter func118,ntmps118
  go_wp2_with fail
  refine (HC.o _).mono ?_;rintro e w' ⟨rfl,h1,h2⟩;go_wp2
  exact bodyPost_end (v:= .tuple #[]) ax rfl ⟨rfl,h1,h2⟩
 |true=>
  simp only [Bool.true_and];go_enter func118,ntmps118
  go_wp2_with fail
  refine (HC.o _).mono ?_;rintro e w' ⟨rfl,h1,h2⟩;go_wp2
  exact bodyPost_end (v:= .tuple #[]) ax rfl ⟨rfl,h1,h2⟩
def St.found (s:St) (ok:Bool) (kind idx field e:Int):St:=if s.err=0/\ok=false then⟨kind,idx,field,e⟩else s
theorem St.IX (s:St) (ok:Bool) (k i f e:Int) (h:s.err≠0):s.found ok k i f e=s:=by unfold St.found;rw [if_neg (λh'=>h h'.1)]
abbrev PL (w:World) (K:Nat) (s:St):Prop:=aT w K 115 s.cells
def aaG (V:World) (K:Nat) (s:St) (e:Ending) (w':World):Prop:=e= .returned (.tuple #[])/\PL w' K s/\aB K V w'
theorem G' {V:World} {K:Nat} {s:St} (h:PL V K s):V.cell? ⟨K,0,none⟩=some (i64 s.kind)/\V.cell? ⟨K,1,none⟩=some (i64 s.idx)/\V.cell? ⟨K,2,none⟩=some (i64 s.field)/\V.cell? ⟨K,3,none⟩=some (i64 s.err)/\V.frozen? ⟨K,0,none⟩=false/\V.frozen? ⟨K,1,none⟩=false/\V.frozen? ⟨K,2,none⟩=false/\V.frozen? ⟨K,3,none⟩=false:=
 ⟨(h.cell 0).trans rfl,(h.cell 1).trans rfl,(h.cell 2).trans rfl,(h.cell 3).trans rfl,h.frozen 0,h.frozen 1,h.frozen 2,h.frozen 3⟩
theorem Rw (V:World) (K:Nat) (s:St) (ok:Bool) (kind idx field e:Int) (h:PL V K s):
 Calls prog 57 #[.pointer (some ⟨K,0,none⟩),.bool ok,i64 kind,i64 idx,i64 field,i64 e] V λe' w'=>aaG V K (s.found ok kind idx field e) e' w':=by
 obtain ⟨c0,c1,c2,c3,f0,f1,f2,f3⟩:=G' h;have HK:=ah h;clear h;by_cases h0:s.err=0
 .have t1:(s.err==0)=true:=by simpa using h0
  cases ok with
  |true=>
   go_enter func57,ntmps57
   go_wp2_with fail
   refine bodyPost_end (v:= .tuple #[]) ax rfl ⟨rfl,?_,aB.refl _ _⟩;unfold St.found;simp;exact HK.o
  |false=>
   have HW:Hid (PL ((((V.setCell ⟨K,0,none⟩ (i64 kind)).setCell ⟨K,1,none⟩ (i64 idx)).setCell ⟨K,2,none⟩ (i64 field)).setCell ⟨K,3,none⟩ (i64 e)) K (s.found false kind idx field e)):=by
    show PL _ _ _;unfold St.found;rw [if_pos ⟨h0,rfl⟩];exact (((HK.o.set 0 _).set 1 _).set 2 _).set 3 _
   go_enter func57,ntmps57
   go_wp2
   exact bodyPost_end (v:= .tuple #[]) ax rfl ⟨rfl,HW.o,(aB.refl _ _).ez.ez.ez.ez⟩
 .have t1:(s.err==0)=false:=by simpa using h0
  have HN:=ah (St.IX s ok kind idx field e h0);clear h0;go_enter func57,ntmps57
  go_wp2
  exact bodyPost_end (v:= .tuple #[]) ax rfl ⟨rfl,by rw [HN.o];exact HK.o,aB.refl _ _⟩
def bN (low high:Int) (l:List Int):Bool:=l.all λx=>decide (low<=x)&&decide (x<=high)
theorem IY {low high:Int} {l:List Int} (h: ∀j,j<l.length->low<=gw l j/\gw l j<=high):bN low high l=true:=by
 unfold bN;rw [List.all_eq_true];intro x hx;obtain ⟨i,hi,rfl⟩:=List.getElem_of_mem hx;have:=h i hi;rw [fo hi]at this;simp [this.1,this.2]
theorem Fx {low high:Int} {l:List Int} {j:Nat} (hj:j<l.length) (h: ¬(low<=gw l j/\gw l j<=high)):bN low high l=false:=by
 unfold bN;rw [List.all_eq_false];refine ⟨l[j],List.getElem_mem hj,?_⟩;rw [fo hj]at h;simpa using h
theorem fJ (w:World) (low high:Int) (a:Option Addr) (c:Nat) (l:List Int) (h:aS w a c l):
 Calls prog 58 #[i64 low,i64 high,.slice a l.length c] w λe w'=>e= .returned (.bool (bN low high l))/\w'=w:=by
 have hle:=h.le;have dS:=h.cap
 have HL:=ah h;clear h;go_enter func58,ntmps58
 go_wp2
 go_loopw [7] (λii wr=> ∃i:Nat,i<=l.length/\wr=w/\(∀j,j<i->low<=gw l j/\gw l j<=high)/\ii= .int .i64 i) (λii _=>l.length-(intOf ii).toNat)
 case atStart=>exact ⟨0,aZ,rfl,λj hj=>absurd hj (Nat.not_lt_zero _),rfl⟩
 case round=>
  obtain ⟨i,hi,hw,hA,rfl⟩:=hrel;subst hw;by_cases hlt:i<l.length
  .obtain ⟨b,o,rfl,c0⟩:=HL.o.cell i hlt
   rw [<-fo hlt]at c0;have HA:=ah hA;obtain ⟨x,hx⟩: ∃x,x=gw l i:=⟨_,rfl⟩;rw [<-hx]at c0;have HX:=ah hx;have iM:(0:Int)<=(i:Int):=ae;have iK:(i:Int)<(l.length:Int):=ae;have jf: ¬(low<=x/\x<=high)->bN low high l=false:=λhn=>Fx hlt (by rw [<-HX.o];exact hn)
   have xj:low<=x/\x<=high-> ∀j,j<i+1->low<=gw l j/\gw l j<=high:=λhg j hj=>by
    by_cases vh:j=i
    .subst vh;rw [<-HX.o];exact hg
    .exact HA.o j ae
   clear hA hx;cases q1:decide (x<low)with
   |true=>
    have HB:=ah (jf (by simp at q1;omega));clear jf xj;go_wp2
    go_ret;exact ⟨by rw [HB.o];rfl,rfl⟩
   |false=>
    cases q2:decide (high<x)with
    |true=>
     have HB:=ah (jf (by simp at q2;omega));clear jf xj;go_wp2
     go_ret;exact ⟨by rw [HB.o];rfl,rfl⟩
    |false=>
     have HG:=ah (xj (by simp at q1 q2;omega));clear jf xj;go_wp2
     exact ⟨⟨i+1,ae,by first|trivial|rfl,HG.o,bf⟩,a_⟩
  .have HF:=ah (IY (low:=low) (high:=high) (l:=l) (λj hj=>hA j ae))
   clear hA;go_wp2
   go_ret;exact ⟨by rw [HF.o];rfl,rfl⟩
def iY (l:List Int):Bool:=(List.range l.length).all λj=>j==0||decide (gw l (j-1)<gw l j)
theorem lg (l:List Int):iY l=true↔ ∀j,1<=j->j<l.length->gw l (j-1)<gw l j:=by
 unfold iY;rw [List.all_eq_true];constructor
 .intro h j h1 h2
  have:=h j (List.mem_range.2 h2);simp only [Bool.or_eq_true,beq_iff_eq,decide_eq_true_eq]at this;rcases this with h|h
  .omega
  .exact h
 .intro h j hj
  simp only [Bool.or_eq_true,beq_iff_eq,decide_eq_true_eq];by_cases h0:j=0
  .exact Or.inl h0
  .exact Or.inr (h j ae (List.mem_range.1 hj))
def fI (n d:Int):Bool:=decide (1<=d)&&decide (d<=1048576)&&decide (-1048576<=n)&&decide (n<=1048576)
def St.away (s:St) (c:ay) (field:Int) (l:List Int):St:=(s.each l field 0 (IntKind.i64.wrap (c.hours-1))).need (iY l) field 11
theorem St.zF (s:St) (l:List Int) (f a b:Int) (i:Nat) (h:i<l.length):s.each (l.take (i+1)) f a b=(s.each (l.take i) f a b).within f l[i] a b:=by
 unfold St.each;rw [List.take_succ_eq_append_getElem h,List.foldl_append];rfl
theorem St.zH (s:St) (l:List Int) (f a b:Int) (i:Nat) (h:(s.each (l.take i) f a b).err≠0):s.each (l.take i) f a b=s.each l f a b:=by
 have h1:s.each l f a b=(s.each (l.take i) f a b).each (l.drop i) f a b:=by
  unfold St.each;rw [<-List.foldl_append,List.take_append_drop]
 rw [h1,St.Lk _ _ _ _ _ h]
theorem Di (w:World) (n d:Int):
 Calls prog 119 #[.agg #[i64 n,i64 d]] w λe w'=>e= .returned (.bool (fI n d))/\Ext w w':=by
 unfold fI;cases d1:decide (1<=d)with
 |false=>
  go_enter func119,ntmps119
  go_wp2
  go_ret;exact ⟨aG,ar.alloc _⟩
 |true=>
  cases d2:decide (d<=1048576)with
  |false=>
   go_enter func119,ntmps119
   go_wp2
   go_ret;exact ⟨aG,ar.alloc _⟩
  |true=>
   cases d3:decide (-1048576<=n)with
   |false=>
    go_enter func119,ntmps119
    go_wp2
    go_ret;exact ⟨aG,ar.alloc _⟩
   |true=>
    go_enter func119,ntmps119
    go_wp2
    go_ret;exact ⟨aG,ar.alloc _⟩
theorem nz (w:World) (a:Option Addr) (c:Nat) (l:List Int) (h:aS w a c l):
 Calls prog 126 #[.slice a l.length c] w λe w'=>e= .returned (.bool (iY l))/\Ext w w':=by
 have hle:=h.le;have dS:=h.cap
 have HL:=ah h;clear h;go_enter func126,ntmps126
 go_wp2
 go_loopw [3] (λii wr=> ∃i:Nat,1<=i/\(i<=l.length\/i=1)/\Ext w wr/\(∀j,1<=j->j<i->gw l (j-1)<gw l j)/\ii= .int .i64 i) (λii _=>l.length-(intOf ii).toNat)
 case atStart=>exact ⟨1,bY,Or.inr rfl,ar,λj h1 h2=>ae,rfl⟩
 case round=>
  obtain ⟨i,h1,hi,hE,hA,rfl⟩:=hrel;by_cases hlt:i<l.length
  .obtain ⟨b,o,rfl,c0⟩:=(HL.o.ext hE).cell i hlt
   obtain ⟨b',o',e',c1⟩:=(HL.o.ext hE).cell (i-1) ae;cases e'
   obtain ⟨p,rfl⟩: ∃p,i=p+1:=⟨i-1,ae⟩;simp only [Nat.add_sub_cancel]at c1;have e0:gw l (p+1)=l[p+1]:=fo ae;have e1:gw l p=l[p]:=fo ae;rw [<-e0]at c0;rw [<-e1]at c1
   have hw:IntKind.i64.wrap (((p+1:Nat):Int)-1)=(p:Int):=dW;have HA:=ah hA;have HE:=ah hE
   obtain ⟨x,hx⟩: ∃x,x=gw l (p+1):=⟨_,rfl⟩;obtain ⟨y,hy⟩: ∃y,y=gw l p:=⟨_,rfl⟩;rw [<-hx]at c0;rw [<-hy]at c1
   have HX:=ah hx;have HY:=ah hy
   have iM:(0:Int)<=((p+1:Nat):Int):=ae;have iK:((p+1:Nat):Int)<(l.length:Int):=ae;have Tj:(0:Int)<=(p:Int):=ae;have Tk:(p:Int)<(l.length:Int):=ae;have Tl:(0:Int)<=(p:Int)+1:=ae;have Tm:(p:Int)+1<(l.length:Int):=ae;have YL: ¬((p:Int)+1<0):=ae;have hw2:IntKind.i64.wrap (p:Int)=(p:Int):=dW;have k0:wr.drew.cell? ⟨b,o+(p+1),none⟩=some (.int .i64 x):=c0;have k1:wr.drew.cell? ⟨b,o+p,none⟩=some (.int .i64 y):=c1;clear hA hE hx hy e0 e1 c0 c1;go_wp2_with fail
   refine aO (λw'=>w'.cell? ⟨b,o+(p+1),none⟩=some (.int .i64 x)/\w'.cell? ⟨b,o+p,none⟩=some (.int .i64 y)) (λw'=>True) (λi=>false) ax (⟨k0,k1⟩) (trivial) (λaD ai=> ?_);refine aJ 0 aD ai ?_;refine aJ 1 aD ai ?_ (v:= .int .i64 ((p+1:Nat):Int));refine aJ 2 aD ai ?_;refine aJ 3 aD ai ?_ (v:= .int .i64 x);refine aJ 4 aD ai ?_;refine aJ 5 aD ai ?_ (v:= .int .i64 ((p+1:Nat):Int));refine aJ 6 aD ai ?_ (v:= .int .i64 (p:Int));refine aJ 7 aD ai ?_;refine aJ 8 aD ai ?_ (v:= .int .i64 y);refine aJ 9 aD ai ?_ (v:= .bool (decide (x<=y)));refine aI ax ?_ _;clear aD ai;by_cases mG:x<=y
   .have t:decide (x<=y)=true:=by simpa using mG
    have hf:iY l=false:=by
     cases hq:iY l with
     |false=>rfl
     |true=>
      have:=(lg l).1 hq (p+1) ae hlt;simp only [Nat.add_sub_cancel]at this;rw [<-HX.o,<-HY.o]at this;omega
    go_wp2
    go_ret;exact ⟨by rw [hf];rfl,HE.o.drew⟩
   .have t:decide (x<=y)=false:=by simpa using mG
    have hn: ∀j,1<=j->j<p+1+1->gw l (j-1)<gw l j:=by
     intro j a1 a2;by_cases hj:j=p+1
     .subst hj
      simp only [Nat.add_sub_cancel];rw [<-HX.o,<-HY.o];omega
     .exact HA.o j a1 ae
    have HN:=ah hn;clear hn k0 k1;go_wp2
    exact ⟨⟨p+1+1,ae,Or.inl ae,HE.o.drew,HN.o,bf⟩,a_⟩
  .have ht:iY l=true:=(lg l).2 (λj a1 a2=>hA j a1 ae)
   clear hA;go_wp2
   go_ret;exact ⟨by rw [ht];rfl,hE⟩
theorem xm (w0 V:World) (K:Nat) (c:ay) (s:St) (field least most:Int) (a:Option Addr) (cc:Nat) (l:List Int) (hK:w0.heap.size<=K) (hV:Ext w0 V) (hl:aS w0 a cc l) (h:iW V K c s):
 Calls prog 113 #[.pointer (some ⟨K,0,none⟩),i64 field,.slice a l.length cc,i64 least,i64 most] V λe' w'=>mI V K c (s.nw c field l least most) e' w':=by
 have hle:=hl.le;have dS:=hl.cap
 have HL:=ah hl;have HV:=ah hV
 have hq:((l.length:Int)==c.hours)=decide ((l.length:Int)=c.hours):=by rw [Bool.eq_iff_iff];simp
 have hC:=fH V K c s (decide ((l.length:Int)=c.hours)) field 4 h;obtain ⟨c0,-⟩:=eM h;unfold St.nw;obtain ⟨s1,hs1⟩: ∃s1,s.need (decide ((l.length:Int)=c.hours)) field 4=s1:=⟨_,rfl⟩;rw [hs1]at hC⊢;have HC:=ah hC;clear h hl hV hs1 hC;go_enter func113,ntmps113
 go_wp2_with fail
 first
  |refine HC.o.mono ?_
  |(rw [hq];refine HC.o.mono ?_)
 rintro e w1 ⟨rfl,zI,hx1⟩;have H1:=ah zI;have X1:=ah hx1
 clear zI hx1 c0 HC hq;go_wp2
 go_loopw [25] (λii wr=> ∃i:Nat,i<=l.length/\iW wr K c (s1.each (l.take i) field least most)/\aB K V wr/\ii= .int .i64 i) (λii _=>l.length-(intOf ii).toNat)
 case atStart=>exact ⟨0,aZ,H1.o,X1.o,rfl⟩
 case round=>
  obtain ⟨i,hi,hk,hx,rfl⟩:=hrel;clear H1 X1;by_cases hlt:i<l.length
  .have hE:=hx.ext HV.o hK
   obtain ⟨b,o,rfl,cl⟩:=(HL.o.ext hE).cell i hlt;obtain ⟨-,-,-,c11,-⟩:=oN hk;have HN:=ah (St.zF s1 l field least most i hlt);have hst:=St.zH s1 l field least most i;generalize s1.each (l.take i) field least most=s2 at*;have HX:=ah hx;have HW:=ah (iX wr K c s2 field l[i] least most hk);have xn:=ah hk;have iM:(0:Int)<=(i:Int):=ae;have iK:(i:Int)<(l.length:Int):=ae;clear hx hE hk;by_cases h0:s2.err=0
   .have t1:(s2.err !=0)=false:=by simpa using h0
    clear hst h0;go_wp2_with fail
    refine HW.o.mono ?_;rintro e w2 ⟨rfl,hk2,hx2⟩;go_wp2
    exact ⟨⟨i+1,ae,by rw [HN.o];exact hk2,HX.o.trans hx2,bf⟩,a_⟩
   .have t1:(s2.err !=0)=true:=by simpa using h0
    have HST:=ah (hst h0);clear hst h0;go_wp2
    exact bodyPost_ret (v:= .tuple #[]) ax rfl ⟨rfl,by rw [<-HST.o];exact xn.o,HX.o⟩
  .obtain rfl:i=l.length:=ae
   rw [List.take_length]at hk;go_wp2
   exact bodyPost_end (v:= .tuple #[]) ax rfl ⟨rfl,hk,hx⟩
theorem Ll (w0 V:World) (K:Nat) (c:ay) (s:St) (field:Int) (a:Option Addr) (cc:Nat) (l:List Int) (hK:w0.heap.size<=K) (hV:Ext w0 V) (hl:aS w0 a cc l) (h:iW V K c s):
 Calls prog 120 #[.pointer (some ⟨K,0,none⟩),i64 field,.slice a l.length cc] V λe' w'=>mI V K c (s.away c field l) e' w':=by
 have hle:=hl.le;have dS:=hl.cap
 have HL:=ah hl;have HV:=ah hV
 unfold St.away;have HH:=ah h;obtain ⟨H1,hH1⟩: ∃H1,IntKind.i64.wrap (c.hours-1)=H1:=⟨_,rfl⟩;rw [hH1];clear h hl hV;go_enter func120,ntmps120
 go_wp2
 go_loopw [10] (λii wr=> ∃i:Nat,i<=l.length/\iW wr K c (s.each (l.take i) field 0 H1)/\aB K V wr/\ii= .int .i64 i) (λii _=>l.length-(intOf ii).toNat)
 case atStart=>exact ⟨0,aZ,HH.o,aB.refl _ _,rfl⟩
 case round=>
  obtain ⟨i,hi,hk,hx,rfl⟩:=hrel;clear HH;by_cases hlt:i<l.length
  .have hE:=hx.ext HV.o hK
   obtain ⟨b,o,rfl,cl⟩:=(HL.o.ext hE).cell i hlt;obtain ⟨-,-,-,c11,-⟩:=oN hk;obtain ⟨c0,-⟩:=eM hk;have HN:=ah (St.zF s l field 0 H1 i hlt);have hst:=St.zH s l field 0 H1 i;generalize s.each (l.take i) field 0 H1=s2 at*;have HX:=ah hx;have HW:=ah (iX wr K c s2 field l[i] 0 H1 hk);have xn:=ah hk;have iM:(0:Int)<=(i:Int):=ae;have iK:(i:Int)<(l.length:Int):=ae;clear hx hE hk;by_cases h0:s2.err=0
   .have t1:(s2.err !=0)=false:=by simpa using h0
    clear hst h0;go_wp2_with fail
    refine HW.o.mono ?_;rintro e w2 ⟨rfl,hk2,hx2⟩;go_wp2
    exact ⟨⟨i+1,ae,by rw [HN.o];exact hk2,HX.o.trans hx2,bf⟩,a_⟩
   .have t1:(s2.err !=0)=true:=by simpa using h0
    have hse:=hst h0;have lL:(s.each l field 0 H1).need (iY l) field 11=s2:=by rw [<-hse];exact St.iy _ _ _ _ h0
    have HST:=ah lL;clear hst h0 hse lL;go_wp2
    exact bodyPost_ret (v:= .tuple #[]) ax rfl ⟨rfl,by rw [HST.o];exact xn.o,HX.o⟩
  .obtain rfl:i=l.length:=ae
   rw [List.take_length]at hk;have hE:=hx.ext HV.o hK;have HA:=ah (nz wr a cc l (HL.o.ext hE));have HX:=ah hx;have xn:=ah hk
   have ahn:=hk.lt;clear hk hx hE;go_wp2_with fail
   refine HA.o.mono ?_;rintro e w2 ⟨rfl,x2⟩;have HC:=ah (fH w2 K c (s.each l field 0 H1) (iY l) field 11 (xn.o.ext x2));go_wp2_with fail
   refine HC.o.mono ?_;rintro e w3 ⟨rfl,hk3,hx3⟩;go_wp2
   exact bodyPost_end (v:= .tuple #[]) ax rfl ⟨rfl,hk3,HX.o.trans ((x2.but K).trans hx3)⟩
theorem qx (w:World) (a:Option Addr) (c:Nat) (l:List Int) (h:aS w a c l):
 Calls prog 107 #[.slice a l.length c] w λe w'=>e= .returned (.bool (iY l))/\Ext w w':=by
 have hle:=h.le;have dS:=h.cap
 have HL:=ah h;clear h;go_enter func107,ntmps107
 go_wp2
 go_loopw [3] (λii wr=> ∃i:Nat,1<=i/\(i<=l.length\/i=1)/\Ext w wr/\(∀j,1<=j->j<i->gw l (j-1)<gw l j)/\ii= .int .i64 i) (λii _=>l.length-(intOf ii).toNat)
 case atStart=>exact ⟨1,bY,Or.inr rfl,ar,λj h1 h2=>ae,rfl⟩
 case round=>
  obtain ⟨i,h1,hi,hE,hA,rfl⟩:=hrel;by_cases hlt:i<l.length
  .obtain ⟨b,o,rfl,c0⟩:=(HL.o.ext hE).cell i hlt
   obtain ⟨b',o',e',c1⟩:=(HL.o.ext hE).cell (i-1) ae;cases e'
   obtain ⟨p,rfl⟩: ∃p,i=p+1:=⟨i-1,ae⟩;simp only [Nat.add_sub_cancel]at c1;have e0:gw l (p+1)=l[p+1]:=fo ae;have e1:gw l p=l[p]:=fo ae;rw [<-e0]at c0;rw [<-e1]at c1
   have hw:IntKind.i64.wrap (((p+1:Nat):Int)-1)=(p:Int):=dW;have HA:=ah hA;have HE:=ah hE
   obtain ⟨x,hx⟩: ∃x,x=gw l (p+1):=⟨_,rfl⟩;obtain ⟨y,hy⟩: ∃y,y=gw l p:=⟨_,rfl⟩;rw [<-hx]at c0;rw [<-hy]at c1
   have HX:=ah hx;have HY:=ah hy
   have iM:(0:Int)<=((p+1:Nat):Int):=ae;have iK:((p+1:Nat):Int)<(l.length:Int):=ae;have Tj:(0:Int)<=(p:Int):=ae;have Tk:(p:Int)<(l.length:Int):=ae;have Tl:(0:Int)<=(p:Int)+1:=ae;have Tm:(p:Int)+1<(l.length:Int):=ae;have YL: ¬((p:Int)+1<0):=ae;have hw2:IntKind.i64.wrap (p:Int)=(p:Int):=dW;have k0:wr.drew.cell? ⟨b,o+(p+1),none⟩=some (.int .i64 x):=c0;have k1:wr.drew.cell? ⟨b,o+p,none⟩=some (.int .i64 y):=c1;clear hA hE hx hy e0 e1 c0 c1;go_wp2_with fail
   refine aO (λw'=>w'.cell? ⟨b,o+(p+1),none⟩=some (.int .i64 x)/\w'.cell? ⟨b,o+p,none⟩=some (.int .i64 y)) (λw'=>True) (λi=>false) ax (⟨k0,k1⟩) (trivial) (λaD ai=> ?_);refine aJ 0 aD ai ?_;refine aJ 1 aD ai ?_ (v:= .int .i64 ((p+1:Nat):Int));refine aJ 2 aD ai ?_;refine aJ 3 aD ai ?_ (v:= .int .i64 x);refine aJ 4 aD ai ?_;refine aJ 5 aD ai ?_ (v:= .int .i64 ((p+1:Nat):Int));refine aJ 6 aD ai ?_ (v:= .int .i64 (p:Int));refine aJ 7 aD ai ?_;refine aJ 8 aD ai ?_ (v:= .int .i64 y);refine aJ 9 aD ai ?_ (v:= .bool (decide (x<=y)));refine aI ax ?_ _;clear aD ai;by_cases mG:x<=y
   .have t:decide (x<=y)=true:=by simpa using mG
    have hf:iY l=false:=by
     cases hq:iY l with
     |false=>rfl
     |true=>
      have:=(lg l).1 hq (p+1) ae hlt;simp only [Nat.add_sub_cancel]at this;rw [<-HX.o,<-HY.o]at this;omega
    go_wp2
    go_ret;exact ⟨by rw [hf];rfl,HE.o.drew⟩
   .have t:decide (x<=y)=false:=by simpa using mG
    have hn: ∀j,1<=j->j<p+1+1->gw l (j-1)<gw l j:=by
     intro j a1 a2;by_cases hj:j=p+1
     .subst hj
      simp only [Nat.add_sub_cancel];rw [<-HX.o,<-HY.o];omega
     .exact HA.o j a1 ae
    have HN:=ah hn;clear hn k0 k1;go_wp2
    exact ⟨⟨p+1+1,ae,Or.inl ae,HE.o.drew,HN.o,bf⟩,a_⟩
  .have ht:iY l=true:=(lg l).2 (λj a1 a2=>hA j a1 ae)
   clear hA;go_wp2
   go_ret;exact ⟨by rw [ht];rfl,hE⟩
def hasB (l:List Int) (v:Int):Bool:=l.any λx=>x==v
theorem rT (l:List Int) (v:Int):hasB l v=true↔ ∃i,i<l.length/\gw l i=v:=by
 unfold hasB;rw [List.any_eq_true];constructor
 .rintro ⟨x,hx,e⟩
  obtain ⟨i,hi,rfl⟩:=List.getElem_of_mem hx;exact ⟨i,hi,by rw [fo hi];simpa using e⟩
 .rintro ⟨i,hi,e⟩
  exact ⟨l[i],List.getElem_mem hi,by rw [fo hi]at e;simpa using e⟩
theorem tU (l:List Int) (v:Int) (h: ∀j,j<l.length->gw l j≠v):hasB l v=false:=by
 cases hq:hasB l v with
 |false=>rfl
 |true=>
  obtain ⟨i,hi,e⟩:=(rT l v).1 hq;exact absurd e (h i hi)
theorem Lm (w:World) (a:Option Addr) (c:Nat) (l:List Int) (v:Int) (h:aS w a c l):
 Calls prog 130 #[.slice a l.length c,i64 v] w λe w'=> ∃r:Int,e= .returned (i64 r)/\decide (0<=r)=hasB l v/\w'=w:=by
 have hle:=h.le;have dS:=h.cap
 have HL:=ah h;clear h;go_enter func130,ntmps130
 go_wp2
 go_loopw [8] (λii wr=> ∃i:Nat,i<=l.length/\wr=w/\(∀j,j<i->gw l j≠v)/\ii= .int .i64 i) (λii _=>l.length-(intOf ii).toNat)
 case atStart=>exact ⟨0,aZ,rfl,λj hj=>absurd hj (Nat.not_lt_zero _),rfl⟩
 case round=>
  obtain ⟨i,hi,hw,hA,rfl⟩:=hrel;subst hw;by_cases hlt:i<l.length
  .obtain ⟨b,o,rfl,c0⟩:=HL.o.cell i hlt
   rw [<-fo hlt]at c0;have HA:=ah hA;obtain ⟨x,hx⟩: ∃x,x=gw l i:=⟨_,rfl⟩;rw [<-hx]at c0;have HX:=ah hx;have iM:(0:Int)<=(i:Int):=ae;have iK:(i:Int)<(l.length:Int):=ae;clear hA hx;by_cases nY:x=v
   .have t:(v==x)=true:=by rw [nY];simp
    have hh:decide ((0:Int)<=(i:Int))=hasB l v:=by
     rw [(rT l v).2 ⟨i,hlt,by rw [<-HX.o];exact nY⟩];simp
    have HH:=ah hh;clear hh nY;go_wp2
    go_ret;exact ⟨_,rfl,HH.o,rfl⟩
   .have t:(v==x)=false:=by simpa using λe=>nY e.symm
    have hn: ∀j,j<i+1->gw l j≠v:=λj hj=>by
     by_cases vh:j=i
     .subst vh;rw [<-HX.o];exact nY
     .exact HA.o j ae
    have HN:=ah hn;clear hn nY;go_wp2
    exact ⟨⟨i+1,ae,by first|trivial|rfl,HN.o,bf⟩,a_⟩
  .have hf:=tU l v (λj hj=>hA j ae)
   have HF:=ah hf;clear hA hf;go_wp2
   go_ret;exact ⟨_,rfl,by rw [HF.o];rfl,rfl⟩
theorem lV (w:World) (a:Option Addr) (c:Nat) (l:List Int) (v:Int) (h:aS w a c l):
 Calls prog 75 #[.slice a l.length c,i64 v] w λe w'=>e= .returned (.bool (hasB l v))/\w'=w:=by
 have HI:=ah (Lm w a c l v h);clear h;go_enter func75,ntmps75
 go_wp2_with fail
 refine HI.o.mono ?_;rintro e w1 ⟨r,rfl,hr,rfl⟩;go_wp2
 go_ret;exact ⟨by rw [<-hr];rfl,rfl⟩
theorem Bp (w:World) (a:Option Addr) (c:Nat) (l:List Int) (v:Int) (h:aS w a c l):
 Calls prog 65 #[.slice a l.length c,i64 v] w λe w'=>e= .returned (.bool (hasB l v))/\w'=w:=by
 have hle:=h.le;have dS:=h.cap
 have HL:=ah h;clear h;go_enter func65,ntmps65
 go_wp2
 go_loopw [5] (λii wr=> ∃i:Nat,i<=l.length/\wr=w/\(∀j,j<i->gw l j≠v)/\ii= .int .i64 i) (λii _=>l.length-(intOf ii).toNat)
 case atStart=>exact ⟨0,aZ,rfl,λj hj=>absurd hj (Nat.not_lt_zero _),rfl⟩
 case round=>
  obtain ⟨i,hi,hw,hA,rfl⟩:=hrel;subst hw;by_cases hlt:i<l.length
  .obtain ⟨b,o,rfl,c0⟩:=HL.o.cell i hlt
   rw [<-fo hlt]at c0;have HA:=ah hA;obtain ⟨x,hx⟩: ∃x,x=gw l i:=⟨_,rfl⟩;rw [<-hx]at c0;have HX:=ah hx;have iM:(0:Int)<=(i:Int):=ae;have iK:(i:Int)<(l.length:Int):=ae;clear hA hx;by_cases nY:x=v
   .have t:(x==v)=true:=by rw [nY];simp
    have HH:=ah ((rT l v).2 ⟨i,hlt,by rw [<-HX.o];exact nY⟩);clear nY;go_wp2
    go_ret;exact ⟨by rw [HH.o];rfl,rfl⟩
   .have t:(x==v)=false:=by simpa using nY
    have hn: ∀j,j<i+1->gw l j≠v:=λj hj=>by
     by_cases vh:j=i
     .subst vh;rw [<-HX.o];exact nY
     .exact HA.o j ae
    have HN:=ah hn;clear hn nY;go_wp2
    exact ⟨⟨i+1,ae,by first|trivial|rfl,HN.o,bf⟩,a_⟩
  .have HF:=ah (tU l v (λj hj=>hA j ae))
   clear hA;go_wp2
   go_ret;exact ⟨by rw [HF.o];rfl,rfl⟩
theorem Ln (w:World) (a:Option Addr) (c:Nat) (l:List Int) (v:Int) (h:aS w a c l):
 Calls prog 133 #[.slice a l.length c,i64 v] w λe w'=>e= .returned (.bool (hasB l v))/\w'=w:=by
 have hle:=h.le;have dS:=h.cap
 have HL:=ah h;clear h;go_enter func133,ntmps133
 go_wp2
 go_loopw [5] (λii wr=> ∃i:Nat,i<=l.length/\wr=w/\(∀j,j<i->gw l j≠v)/\ii= .int .i64 i) (λii _=>l.length-(intOf ii).toNat)
 case atStart=>exact ⟨0,aZ,rfl,λj hj=>absurd hj (Nat.not_lt_zero _),rfl⟩
 case round=>
  obtain ⟨i,hi,hw,hA,rfl⟩:=hrel;subst hw;by_cases hlt:i<l.length
  .obtain ⟨b,o,rfl,c0⟩:=HL.o.cell i hlt
   rw [<-fo hlt]at c0;have HA:=ah hA;obtain ⟨x,hx⟩: ∃x,x=gw l i:=⟨_,rfl⟩;rw [<-hx]at c0;have HX:=ah hx;have iM:(0:Int)<=(i:Int):=ae;have iK:(i:Int)<(l.length:Int):=ae;clear hA hx;by_cases nY:x=v
   .have t:(x==v)=true:=by rw [nY];simp
    have HH:=ah ((rT l v).2 ⟨i,hlt,by rw [<-HX.o];exact nY⟩);clear nY;go_wp2
    go_ret;exact ⟨by rw [HH.o];rfl,rfl⟩
   .have t:(x==v)=false:=by simpa using nY
    have hn: ∀j,j<i+1->gw l j≠v:=λj hj=>by
     by_cases vh:j=i
     .subst vh;rw [<-HX.o];exact nY
     .exact HA.o j ae
    have HN:=ah hn;clear hn nY;go_wp2
    exact ⟨⟨i+1,ae,by first|trivial|rfl,HN.o,bf⟩,a_⟩
  .have HF:=ah (tU l v (λj hj=>hA j ae))
   clear hA;go_wp2
   go_ret;exact ⟨by rw [HF.o];rfl,rfl⟩
def nd (e:Int) (ok:Bool) (code:Int):Int:=if e=0/\ok=false then code else e
theorem fq {e:Int} (h:e≠0) (ok:Bool) (code:Int):nd e ok code=e:=by unfold nd;rw [if_neg (λh'=>h h'.1)]
theorem bI (e code:Int):nd e true code=e:=by unfold nd;rw [if_neg (λh=>by cases h.2)]
theorem Dj (code:Int):nd 0 false code=code:=by unfold nd;rw [if_pos ⟨rfl,rfl⟩]
theorem nZ (e:Int) (a b:Bool) (code:Int) (hc:code≠0):nd (nd e a code) b code=nd e (a&&b) code:=by
 by_cases h:e=0
 .subst h
  cases a with
  |true=>rw [bI,Bool.true_and]
  |false=>rw [Dj,fq hc,Bool.false_and,Dj]
 .rw [fq h,fq h,fq h]
def FE (w:World) (K:Nat) (e:Int):Prop:= ∃k i f,PL w K ⟨k,i,f,e⟩
theorem FE.ext {w w':World} {K:Nat} {e:Int} (h:FE w K e) (x:Ext w w'):FE w' K e:=by
 obtain ⟨k,i,f,h⟩:=h;exact ⟨k,i,f,h.ext x⟩
theorem FE.alloc {w:World} {K:Nat} {e:Int} (h:FE w K e) (o:Obj):FE (w.alloc o) K e:=h.ext (ar.alloc _)
theorem FE.lt {w:World} {K:Nat} {e:Int} (h:FE w K e):K<w.heap.size:=by obtain ⟨k,i,f,h⟩:=h;exact h.lt
theorem FE.cell {w:World} {K:Nat} {e:Int} (h:FE w K e):w.cell? ⟨K,3,none⟩=some (i64 e):=by
 obtain ⟨k,i,f,h⟩:=h;exact (G' h).2.2.2.1
def tV (V:World) (K:Nat) (x:Int) (e:Ending) (w':World):Prop:=e= .returned (.tuple #[])/\FE w' K x/\aB K V w'
theorem cZ (V:World) (K:Nat) (e:Int) (ok:Bool) (kind idx field code:Int) (h:FE V K e):
 Calls prog 57 #[.pointer (some ⟨K,0,none⟩),.bool ok,i64 kind,i64 idx,i64 field,i64 code] V λe' w'=>tV V K (nd e ok code) e' w':=by
 obtain ⟨k,i,f,h⟩:=h;refine (Rw V K _ ok kind idx field code h).mono ?_;rintro e' w' ⟨h1,h2,h3⟩;refine ⟨h1,?_,h3⟩;unfold St.found at h2;unfold nd;split at h2
 .rename_i hq;rw [if_pos hq];exact ⟨_,_,_,h2⟩
 .rename_i hq;rw [if_neg hq];exact ⟨_,_,_,h2⟩
theorem FE.but {w w':World} {K:Nat} {e:Int} {b:Nat} (h:FE w K e) (x:aB b w w') (hb:K≠b):FE w' K e:=by
 obtain ⟨k,i,f,h⟩:=h;have hl:=h.lt;refine ⟨k,i,f,?_⟩;unfold PL aT at*;rw [x.block K hl hb];exact h
theorem aB.alloc' {b:Nat} {w w':World} (h:aB b w w') (o:Obj):aB b w (w'.alloc o):=h.trans (((Ext.refl w').alloc o).but b)
theorem aS.one (W:World) (x:Int) (hx:b_ x):aS (W.alloc (.cells #[i64 x] 3)) (some ⟨W.heap.size,0,none⟩) 1 [x]:=
 ⟨aG,ae,λi hi=>⟨W.heap.size,0,rfl,by
   have h0:i=0:=by simpa using hi
   subst h0;exact (aT.alloc W 3 [i64 x]).cell 0⟩,λi hi=>by
   have h0:i=0:=by simpa using hi
   subst h0;unfold b_ at hx;simp only [List.getElem_cons_zero];omega⟩
theorem Bq (W:World) (x lo hi:Int) (hx:b_ x):
 Calls prog 58 #[i64 lo,i64 hi,.slice (some ⟨W.heap.size,0,none⟩) 1 1] (W.alloc (.cells #[i64 x] 3)) λe w'=>e= .returned (.bool (bN lo hi [x]))/\w'=W.alloc (.cells #[i64 x] 3):=
 fJ _ lo hi _ 1 [x] (aS.one W x hx)
theorem Fy (n d:Int):(bN 1 1048576 [d]&&bN (-1048576) 1048576 [n])=fI n d:=by
 unfold bN fI;simp [Bool.and_assoc]
theorem kL (w:World) (n d:Int) (hn:b_ n) (hd:b_ d):
 Calls prog 104 #[.agg #[i64 n,i64 d]] w λe w'=>e= .returned (.bool (fI n d))/\Ext w w':=by
 have HB:=ah (Fy n d);have H1:=ah (λW=>Bq W d 1 1048576 hd);have H2:=ah (λW=>Bq W n (-1048576) 1048576 hn);clear hn hd;obtain ⟨W,hW,x0,Z0,A0⟩:=aV w 64 [i64 n,i64 d];have Tn:Hid (w.alloc (.cells #[i64 n,i64 d] 64)=W):=hW.symm;have HX:=ah x0;have f0:W.cell? ⟨w.heap.size,0,none⟩=some (i64 n):=(A0.cell 0).trans rfl;have f1:W.cell? ⟨w.heap.size,1,none⟩=some (i64 d):=(A0.cell 1).trans rfl;clear hW x0 Z0;obtain ⟨B,hB⟩: ∃B,B=w.heap.size:=⟨_,rfl⟩;rw [<-hB]at f0 f1;have g0:(W.alloc (.cells #[i64 d] 3)).cell? ⟨B,0,none⟩=some (i64 n):=aC (ar.alloc _) f0;clear A0;cases d1:bN 1 1048576 [d]with
 |false=>
  have HV:Hid (fI n d=false):=by show _=_;rw [<-HB.o,d1];rfl
  rw [d1]at H1;clear d1;go_enter func104,ntmps104
  go_upto_region 1 with fail
  rw [Tn.o,<-hB];clear hB;go_wp2_with fail
  refine (H1.o _).mono ?_;rintro e w1 ⟨rfl,rfl⟩;go_wp2
  go_ret;exact ⟨by rw [HV.o];rfl,HX.o.alloc _⟩
 |true=>
  have HV:Hid (fI n d=bN (-1048576) 1048576 [n]):=by show _=_;rw [<-HB.o,d1];rfl
  rw [d1]at H1;clear d1;go_enter func104,ntmps104
  go_upto_region 1 with fail
  rw [Tn.o,<-hB];clear hB;go_wp2_with fail
  refine (H1.o _).mono ?_;rintro e w1 ⟨rfl,rfl⟩;obtain ⟨W2,hW2,x2,Z2,-⟩:=aV W 3 [i64 d];have g1:W2.cell? ⟨B,0,none⟩=some (i64 n):=aC x2 f0;rw [show W.alloc (.cells #[i64 d] 3)=W2 from hW2.symm];have eR:=ah (HX.o.trans x2);clear g0 f0 f1 hW2 x2 Z2;go_wp2_with fail
  refine (H2.o _).mono ?_;rintro e w1 ⟨rfl,rfl⟩;go_wp2
  go_ret;exact ⟨by rw [HV.o];rfl,eR.o.alloc _⟩
def qy (e:Int) (c:ay) (i:Int):Int:=nd e (bN 0 ((c.aF.length:Int)-1) [i]) 12
def gm (e:Int) (c:ay) (l:List Int) (lo hi:Int):Int:=nd (nd e (decide ((l.length:Int)=c.hours)) 4) (bN lo hi l) 3
def n9 (e:Int) (c:ay) (l:List Int):Int:=nd (nd e (bN 0 (IntKind.i64.wrap (c.hours-1)) l) 3) (iY l) 11
theorem ay.at {w:World} {B:Nat} {T:TypeId} {c:ay} (h:aT w B T c.cells):w.cell? ⟨B,0,none⟩=some (i64 c.hours)/\w.cell? ⟨B,1,none⟩=some (.slice c.ra c.aX.length c.rc)/\w.cell? ⟨B,2,none⟩=some (.slice c.ba c.aF.length c.bc)/\w.cell? ⟨B,3,none⟩=some (.slice c.la c.lines.length c.lc)/\w.cell? ⟨B,4,none⟩=some (.slice c.ua c.aA.length c.uc)/\w.cell? ⟨B,5,none⟩=some (.slice c.sa c.stores.length c.sc)/\w.cell? ⟨B,6,none⟩=some (.slice c.ta c.bh.length c.tc)/\w.cell? ⟨B,7,none⟩=some (.slice c.oa c.outs.length c.oc):=
 ⟨(h.cell 0).trans rfl,(h.cell 1).trans rfl,(h.cell 2).trans rfl,(h.cell 3).trans rfl,(h.cell 4).trans rfl,(h.cell 5).trans rfl,(h.cell 6).trans rfl,(h.cell 7).trans rfl⟩
theorem vX (w0 V:World) (K:Nat) (c:ay) (e:Int) (i kind idx field:Int) (hV:Ext w0 V) (hc:bm w0 c) (hi:b_ i) (h:FE V K e):
 Calls prog 103 #[.pointer (some ⟨K,0,none⟩),.agg (C8 c),i64 i,i64 kind,i64 idx,i64 field] V λe' w'=>tV V K (qy e c i) e' w':=by
 try unfold C8
 have hle:=hc.aF.le;have dS:=hc.aF.cap
 rw [List.length_map]at hle;have HH:=ah h;have HB:=ah (λW=>Bq W i 0 ((c.aF.length:Int)-1) hi);have b0:(0:Int)<=(c.aF.length:Int):=ae;have b1:(c.aF.length:Int)<=9223372036854775807:=ae;have hw:IntKind.i64.wrap ((c.aF.length:Int)-1)=(c.aF.length:Int)-1:=dW;unfold qy;clear hc hi h hV hle dS;go_enter func103,ntmps103
 go_upto_region 1 with fail
 obtain ⟨W,hW,x0,Z0,A0⟩:=aV V 32 c.cells;rw [show V.alloc (.cells (C8 c) 32)=W from hW.symm];clear hW;have HF:=ah (HH.o.ext x0);obtain ⟨-,-,c2,-⟩:=ay.at A0;have HX:=ah (x0.but K);clear Z0 x0;clear A0;go_wp2_with fail
 refine (HB.o _).mono ?_;rintro e w1 ⟨rfl,rfl⟩;go_wp2_with fail
 refine (cZ _ K _ _ _ _ _ _ (HF.o.alloc _)).mono ?_;rintro e w1 ⟨rfl,hf,hx⟩;go_wp2
 exact bodyPost_end (v:= .tuple #[]) ax rfl ⟨rfl,hf,(HX.o.alloc' _).trans hx⟩
theorem Dk (w0 V:World) (K:Nat) (c:ay) (e:Int) (a:Option Addr) (cc:Nat) (l:List Int) (kind idx field:Int) (hK:w0.heap.size<=K) (hV:Ext w0 V) (hl:aS w0 a cc l) (h:FE V K e):
 Calls prog 105 #[.pointer (some ⟨K,0,none⟩),.agg (C8 c),.slice a l.length cc,i64 kind,i64 idx,i64 field] V λe' w'=>tV V K (n9 e c l) e' w':=by
 try unfold C8
 have HH:=ah h;have HL:=ah hl;have HV:=ah hV;have dN:=ah hK
 unfold n9;obtain ⟨H1,hH1⟩: ∃H1,IntKind.i64.wrap (c.hours-1)=H1:=⟨_,rfl⟩;rw [hH1];clear h hV hl hK;go_enter func105,ntmps105
 go_upto_region 1 with fail
 obtain ⟨W,hW,x0,Z0,A0⟩:=aV V 32 c.cells;rw [show V.alloc (.cells (C8 c) 32)=W from hW.symm];clear hW;have HF:=ah (HH.o.ext x0);obtain ⟨c0,-⟩:=ay.at A0;have HX:=ah (x0.but K);have HE:=ah (HV.o.trans x0)
 clear Z0 x0;clear A0;go_wp2_with fail
 refine (fJ _ _ _ a cc l (HL.o.ext HE.o)).mono ?_;rintro e w1 ⟨rfl,rfl⟩;go_wp2_with fail
 refine (cZ _ K _ _ _ _ _ _ HF.o).mono ?_;rintro e w1 ⟨rfl,hf,hx⟩;have jB:=ah (hx.ext HE.o dN.o);have vA:=ah hf;have eC:=ah (HX.o.trans hx)
 clear hf hx c0;go_wp2_with fail
 refine (qx _ a cc l (HL.o.ext jB.o)).mono ?_;rintro e w2 ⟨rfl,x2⟩;go_wp2_with fail
 refine (cZ _ K _ _ _ _ _ _ (vA.o.ext x2)).mono ?_;rintro e w3 ⟨rfl,hf3,hx3⟩;go_wp2
 exact bodyPost_end (v:= .tuple #[]) ax rfl ⟨rfl,hf3,(eC.o.trans (x2.but K)).trans hx3⟩
theorem qA (w0 V:World) (K:Nat) (c:ay) (e:Int) (a:Option Addr) (cc:Nat) (l:List Int) (lo hi kind idx field:Int) (hK:w0.heap.size<=K) (hV:Ext w0 V) (hl:aS w0 a cc l) (h:FE V K e):
 Calls prog 56 #[.pointer (some ⟨K,0,none⟩),.agg (C8 c),.slice a l.length cc,i64 lo,i64 hi,i64 kind,i64 idx,i64 field] V λe' w'=>tV V K (gm e c l lo hi) e' w':=by
 try unfold C8
 have hle:=hl.le;have dS:=hl.cap
 have HH:=ah h;have HL:=ah hl;have HV:=ah hV;have dN:=ah hK
 have hq:((l.length:Int)==c.hours)=decide ((l.length:Int)=c.hours):=by rw [Bool.eq_iff_iff];simp
 unfold gm;rw [<-hq];clear h hV hl hK hq;go_enter func56,ntmps56
 go_upto_region 1 with fail
 obtain ⟨W,hW,x0,Z0,A0⟩:=aV V 32 c.cells;rw [show V.alloc (.cells (C8 c) 32)=W from hW.symm];clear hW;have HF:=ah (HH.o.ext x0);obtain ⟨c0,-⟩:=ay.at A0;have HX:=ah (x0.but K);have HE:=ah (HV.o.trans x0)
 clear Z0 x0;clear A0;go_wp2_with fail
 refine (cZ _ K _ _ _ _ _ _ HF.o).mono ?_;rintro e w1 ⟨rfl,hf,hx⟩;have jB:=ah (hx.ext HE.o dN.o);have vA:=ah hf;have eC:=ah (HX.o.trans hx)
 clear hf hx c0;go_wp2_with fail
 refine (fJ _ _ _ a cc l (HL.o.ext jB.o)).mono ?_;rintro e w2 ⟨rfl,rfl⟩;go_wp2_with fail
 refine (cZ _ K _ _ _ _ _ _ vA.o).mono ?_;rintro e w3 ⟨rfl,hf3,hx3⟩;go_wp2
 exact bodyPost_end (v:= .tuple #[]) ax rfl ⟨rfl,hf3,eC.o.trans hx3⟩
def d_ (s:ByteArray) (i:Nat):Nat:=if h:i<s.size then s[i].toNat else 0
theorem tW (s:ByteArray) (i:Nat) (h:i<s.size):d_ s i=s[i].toNat:=dif_pos h
def jw (x:Nat):Bool:=decide (97<=x)&&decide (x<=122)
def okB (x:Nat):Bool:=jw x||(decide (48<=x)&&decide (x<=57))||decide (x=95)
def dU (s:ByteArray):Bool:=decide (1<=s.size)&&decide (s.size<=16)&& !(s.toList== [99,111,114,114,101,99,116,105,118,101])&&jw (d_ s 0)&&(List.range s.size).all λi=>okB (d_ s i)
theorem zJ {x:Nat} (h:(x<97\/122<x)/\(x<48\/57<x)/\x≠95):okB x=false:=by
 unfold okB jw;simp only [Bool.or_eq_false_iff,Bool.and_eq_false_iff,decide_eq_false_iff_not];omega
theorem Dl {x:Nat} (h: ¬((x<97\/122<x)/\(x<48\/57<x)/\x≠95)):okB x=true:=by
 unfold okB jw;simp only [Bool.or_eq_true,Bool.and_eq_true,decide_eq_true_eq];omega
theorem Dm {x:Nat} (h:jw x=true):okB x=true:=by unfold okB;rw [h];rfl
theorem zK {s:ByteArray} {i:Nat} (hi:i<s.size) (h:okB (d_ s i)=false):dU s=false:=by
 unfold dU
 have:(List.range s.size).all (λi=>okB (d_ s i))=false:=by
  rw [List.all_eq_false];exact ⟨i,List.mem_range.2 hi,by rw [h];decide⟩
 rw [this,Bool.and_false]
theorem nA {s:ByteArray} (h1:1<=s.size) (h2:s.size<=16) (h3:(s.toList== [99,111,114,114,101,99,116,105,118,101])=false) (h4:jw (d_ s 0)=true) (h5: ∀j,j<s.size->okB (d_ s j)=true):dU s=true:=by
 unfold dU;rw [h3,h4,List.all_eq_true.2 (λj hj=>h5 j (List.mem_range.1 hj))];simp [h1,h2]
theorem Oc (w:World) (s:ByteArray) (hs:s.size<=maxLen):
 Calls prog 158 #[.string s] w λe w'=>e= .returned (.bool (dU s))/\w'=w:=by
 unfold maxLen at hs;by_cases h1:1<=s.size
 rotate_left
 .have d1:decide ((s.size:Int)<1)=true:=by simp;omega
  have hn:dU s=false:=by unfold dU;simp [h1]
  rw [hn];clear hn;go_enter func158,ntmps158
  go_wp2
  go_ret;exact ⟨rfl,rfl⟩
 have d1:decide ((s.size:Int)<1)=false:=by simp;omega
 by_cases h2:s.size<=16
 rotate_left
 .have d2:decide ((16:Int)<(s.size:Int))=true:=by simp;omega
  have hn:dU s=false:=by unfold dU;simp [h2]
  rw [hn];clear hn;go_enter func158,ntmps158
  go_wp2
  go_ret;exact ⟨rfl,rfl⟩
 have d2:decide ((16:Int)<(s.size:Int))=false:=by simp;omega
 cases d3:(s.toList== [99,111,114,114,101,99,116,105,118,101])with
 |true=>
  have hn:dU s=false:=by unfold dU;rw [d3];simp
  rw [hn];clear hn;go_enter func158,ntmps158
  go_wp2
  go_ret;exact ⟨rfl,rfl⟩
 |false=>
  have z0:0<s.size:=ae;have e0:=tW s 0 z0;by_cases h4:jw (d_ s 0)=true
  rotate_left
  .have hn:dU s=false:=by unfold dU;simp [h4]
   rw [hn];rw [e0]at h4;unfold jw at h4
   have hq:decide (((s[0].toNat:Nat):Int)<97)=true\/(decide (((s[0].toNat:Nat):Int)<97)=false/\decide ((122:Int)<((s[0].toNat:Nat):Int))=true):=by
    simp at h4⊢;omega
   clear hn h4 e0;rcases hq with q1|⟨q1,q2⟩
   .go_enter func158,ntmps158
    go_wp2
    go_ret;exact ⟨rfl,rfl⟩
   .go_enter func158,ntmps158
    go_wp2
    go_ret;exact ⟨rfl,rfl⟩
  have aaI:=ah h4;rw [e0]at h4;unfold jw at h4;have q1:decide (((s[0].toNat:Nat):Int)<97)=false:=by simp at h4⊢;omega
  have q2:decide ((122:Int)<((s[0].toNat:Nat):Int))=false:=by simp at h4⊢;omega
  clear h4 e0;have Tp:=ah d3;go_enter func158,ntmps158
  go_wp2
  go_loopw [29] (λii wr=> ∃i:Nat,i<=s.size/\wr=w/\(∀j,j<i->okB (d_ s j)=true)/\ii= .int .i64 i) (λii _=>s.size-(intOf ii).toNat)
  case atStart=>exact ⟨0,aZ,rfl,λj hj=>absurd hj (Nat.not_lt_zero _),rfl⟩
  case round=>
   obtain ⟨i,hi,rfl,hA,rfl⟩:=hrel;by_cases hlt:i<s.size
   .have ei:=tW s i hlt
    have HA:=ah hA;have iM:(0:Int)<=(i:Int):=ae;have iK:(i:Int)<(s.size:Int):=ae;obtain ⟨x,hx⟩: ∃x:Nat,s[i].toNat=x:=⟨_,rfl⟩;rw [hx]at ei;have PM:=ah ei;clear hA ei q1 q2 d1 d2 d3
    have hq:(decide ((x:Int)<97)=false/\decide ((122:Int)<(x:Int))=false)\/(decide ((x:Int)<97)=true/\decide ((x:Int)<48)=true/\((x:Int) !=95)=true)\/(decide ((x:Int)<97)=true/\decide ((x:Int)<48)=false/\decide ((57:Int)<(x:Int))=false)\/(decide ((x:Int)<97)=true/\decide ((x:Int)<48)=false/\decide ((57:Int)<(x:Int))=true/\((x:Int) !=95)=true)\/(decide ((x:Int)<97)=true/\decide ((x:Int)<48)=false/\decide ((57:Int)<(x:Int))=true/\((x:Int) !=95)=false)\/(decide ((x:Int)<97)=false/\decide ((122:Int)<(x:Int))=true/\decide ((x:Int)<48)=false/\decide ((57:Int)<(x:Int))=true/\((x:Int) !=95)=true):=by
     simp only [decide_eq_true_eq,decide_eq_false_iff_not,bne_iff_ne,ne_eq,bne_eq_false_iff_eq];omega
    have gA:okB (d_ s i)=okB x:=by rw [PM.o]
    have rj:okB x=true-> ∀j,j<i+1->okB (d_ s j)=true:=λht j hj=>by
     by_cases vh:j=i
     .subst vh;rw [PM.o];exact ht
     .exact HA.o j ae
    have jf:okB x=false->dU s=false:=λhf=>zK hlt (by rw [PM.o];exact hf);have gf:= @zJ x;have gt:= @Dl x;rcases hq with⟨q1,q2⟩|⟨q1,q3,q5⟩|⟨q1,q3,q4⟩|⟨q1,q3,q4,q5⟩|⟨q1,q3,q4,q5⟩|⟨q1,q2,q3,q4,q5⟩
    .have HN:=ah (rj (gt (by simp only [decide_eq_true_eq,decide_eq_false_iff_not,bne_iff_ne,ne_eq,bne_eq_false_iff_eq]at q1 q2;omega)))
     clear rj jf gf gt gA;go_wp2
     exact ⟨⟨i+1,ae,by first|trivial|rfl,HN.o,bf⟩,a_⟩
    .have HN:=ah (jf (gf (by simp only [decide_eq_true_eq,decide_eq_false_iff_not,bne_iff_ne,ne_eq,bne_eq_false_iff_eq]at q1 q3 q5;omega)))
     clear rj jf gf gt gA;go_wp2
     go_ret;exact ⟨by rw [HN.o];rfl,rfl⟩
    .have HN:=ah (rj (gt (by simp only [decide_eq_true_eq,decide_eq_false_iff_not,bne_iff_ne,ne_eq,bne_eq_false_iff_eq]at q1 q3 q4;omega)))
     clear rj jf gf gt gA;go_wp2
     exact ⟨⟨i+1,ae,by first|trivial|rfl,HN.o,bf⟩,a_⟩
    .have HN:=ah (jf (gf (by simp only [decide_eq_true_eq,decide_eq_false_iff_not,bne_iff_ne,ne_eq,bne_eq_false_iff_eq]at q1 q3 q4 q5;omega)))
     clear rj jf gf gt gA;go_wp2
     go_ret;exact ⟨by rw [HN.o];rfl,rfl⟩
    .have HN:=ah (rj (gt (by simp only [decide_eq_true_eq,decide_eq_false_iff_not,bne_iff_ne,ne_eq,bne_eq_false_iff_eq]at q1 q3 q4 q5;omega)))
     clear rj jf gf gt gA;go_wp2
     exact ⟨⟨i+1,ae,by first|trivial|rfl,HN.o,bf⟩,a_⟩
    .have HN:=ah (jf (gf (by simp only [decide_eq_true_eq,decide_eq_false_iff_not,bne_iff_ne,ne_eq,bne_eq_false_iff_eq]at q1 q2 q3 q4 q5;omega)))
     clear rj jf gf gt gA;go_wp2
     go_ret;exact ⟨by rw [HN.o];rfl,rfl⟩
   .have hn:=nA h1 h2 Tp.o aaI.o (λj hj=>hA j ae)
    clear hA;go_wp2
    go_ret;exact ⟨by rw [hn];rfl,rfl⟩
