/- Texts of the proof. -/
import Derived.Test.YtfokdakioeoniaaGreatCj39
import Derived.Test.YtfokdakioeoniaaGreatCj40
set_option linter.all false
set_option maxHeartbeats 1000000
set_option maxRecDepth 100000
namespace Go.Proofs.YtfokdakioeoniaaGreat
open Go.Proofs.Tryz
open Go.RowKit
theorem St.Vw (c:aq) (h:Nat) (s:St):(St.RM c h s c.outs.length).err=o9 c h s.err:=by
 unfold St.RM o9;refine p_ c.outs (λx _ e=>nd e (!mI c h x) 13) _ ?_ s c.outs.length;intro s i;unfold cN;cases c.outs[i]? with
 |none=>rfl
 |some x=>show(St.Ee c h x i s).err=_;unfold St.Ee;rw [St.dh,St.vt]
theorem St.AA (s:St) (c:aq):(s.sU c).err=wu c s.err:=by
 unfold St.sU wu;generalize c.hours.toNat=n;induction n with
 |zero=>rfl
 |succ n ih=>rw [St.Ax,St.Vw,ih,fF]
noncomputable def ck (c:aq):Nat->St
 |0=>⟨0,0,0,0⟩
 |1=>St.whole ⟨0,0,0,0⟩ c
 |2=>(St.whole ⟨0,0,0,0⟩ c).ar c
 |3=>((St.whole ⟨0,0,0,0⟩ c).ar c).lines c
 |4=>(((St.whole ⟨0,0,0,0⟩ c).ar c).lines c).ay c
 |5=>((((St.whole ⟨0,0,0,0⟩ c).ar c).lines c).ay c).stores c
 |6=>(((((St.whole ⟨0,0,0,0⟩ c).ar c).lines c).ay c).stores c).bF c
 |7=>((((((St.whole ⟨0,0,0,0⟩ c).ar c).lines c).ay c).stores c).bF c).outs c
 |_=>(((((((St.whole ⟨0,0,0,0⟩ c).ar c).lines c).ay c).stores c).bF c).outs c).sU c
theorem GD (c:aq):(ck c 7).err=Cy c (Cx c (sB c (wk c (rF c (wj c (mE c 0)))))):=by
 show(St.outs _ c).err=_;rw [St.KL,St.KJ,St.CJ,St.GC,St.GA,St.Gz,St.Pr]
theorem Ps (c:aq):(ck c 8).err=cC c:=by
 show(St.sU _ c).err=_;unfold cC;rw [St.AA,<-GD];rfl
theorem RP (c:aq) (i:Nat) (h:(ck c i).err≠0):(ck c (i+1)).err=(ck c i).err:=by
 have hb:=λe (he:e≠0)=>jM (F:=cN c.ar (v_ c)) (λi e h=>dS (vh c) i e h) he c.ar.length;have hl:=λe (he:e≠0)=>jM (F:=cN c.lines (qu c)) (λi e h=>dS (wh c) i e h) he c.lines.length;have hu:=λe (he:e≠0)=>jM (F:=cN c.ay (qw c)) (λi e h=>dS (sA c) i e h) he c.ay.length;have hs:=λe (he:e≠0)=>jM (F:=cN c.stores (mH c)) (λi e h=>dS (pX c) i e h) he c.stores.length;have ht:=λe (he:e≠0)=>jM (F:=cN c.bF (yy c)) (λi e h=>dS (vk c) i e h) he c.bF.length;have ho:=λe (he:e≠0)=>jM (F:=cN c.outs (yz c)) (λi e h=>dS (rC c) i e h) he c.outs.length;have hh:=λe (he:e≠0)=>jM (F:=o9 c) (o_ c) he c.hours.toNat;match i,h with
 |0,h=>exact absurd rfl h
 |1,h=>exact (St.Gz _ c).trans (hb _ h)
 |2,h=>exact (St.GA _ c).trans (hl _ h)
 |3,h=>exact (St.GC _ c).trans (hu _ h)
 |4,h=>exact (St.CJ _ c).trans (hs _ h)
 |5,h=>exact (St.KJ _ c).trans (ht _ h)
 |6,h=>exact (St.KL _ c).trans (ho _ h)
 |7,h=>exact (St.AA _ c).trans (hh _ h)
 |n+8,h=>rfl
theorem KW (c:aq): ∀n i,i+n=8->(ck c i).err≠0->cC c=(ck c i).err
 |0,i,e,h=>by obtain rfl:i=8:=ae
              rw [Ps]
 |n+1,i,e,h=>by
  have h1:=RP c i h;rw [KW c n (i+1) ae (by rw [h1];exact h),h1]
def WE:Nat->FuncId
 |0=>87
 |1=>88
 |2=>89
 |3=>90
 |4=>91
 |5=>92
 |6=>93
 |_=>94
theorem Jr (i:Nat) (hi:i<8): ∀args w,(callFunc (WE i) args).run prog w= .ok (.enter (WE i) args) w:=by
 match i,hi with
 |0,_=>exact enters_of func87 aw rfl
 |1,_=>exact enters_of func88 aw rfl
 |2,_=>exact enters_of func89 aw rfl
 |3,_=>exact enters_of func90 aw rfl
 |4,_=>exact enters_of func91 aw rfl
 |5,_=>exact enters_of func92 aw rfl
 |6,_=>exact enters_of func93 aw rfl
 |7,_=>exact enters_of func94 aw rfl
theorem MF (w0:World) (K:Nat) (c:aq) (hK:w0.heap.size<=K) (hc:bK w0 c) (hl:kU c) (i:Nat) (hi:i<8) (h0:(ck c i).err=0) (U:World) (hU:Ext w0 U) (h:kg U K c (ck c i)):
 Calls prog (WE i) #[.pointer (some ⟨K,0,none⟩)] U λe' w'=>oU U K c (ck c (i+1)) e' w':=by
 match i,hi,h0,h with
 |0,_,_,h=>exact Rl w0 U K c _ hK hU hc h
 |1,_,_,h=>exact Rj w0 U K c _ hK hU hc hl.ar h
 |2,_,_,h=>exact Rk w0 U K c _ hK hU hc hl.lines h
 |3,_,_,h=>exact RN w0 U K c _ hK hU hc hl.ay h
 |4,_,_,h=>exact OM w0 U K c _ hK hU hc hl.stores h
 |5,_,_,h=>exact U0 w0 U K c _ hK hU hc hl.bF h
 |6,_,_,h=>exact ME w0 U K c _ hK hU hc hl.outs h
 |7,_,h0,h=>
  rw [GD]at h0;have ok:=Kr h0;exact MD w0 U K c _ hK hU hc hl ok.frame.hours ok.line h
def ckV (K:Nat):List Value:=(List.range 8).map λi=> .func (.func (WE i)) #[.pointer (some ⟨K,0,none⟩)] #[]
theorem px (w0:World) (c:aq) (hc:bK w0 c) (hl:kU c):
 Calls prog 39 #[.agg (C8 c)] w0 λe w'=> ∃k i f,e= .returned (.tuple #[.agg #[i64 k,i64 i,i64 f],i64 (cC c)])/\Ext w0 w':=by
 try unfold C8
 have iL:=af hc;have tr:=af hl
 have YG:=af (Ps c);obtain ⟨ce,hce⟩: ∃ce,ce=cC c:=⟨_,rfl⟩;have YH:Hid (∀i,i<=8->(ck c i).err≠0->ce=(ck c i).err):=λi hi h=>by rw [hce];exact KW c (8-i) i ae h
 rw [<-hce]at YG⊢;clear hc hl hce;go_enter func39,ntmps39
 go_upto_region 2 with fail
 obtain ⟨W,hW,x0,Z0,A0,A1,A2⟩:=et w0 30 c.cells 95 [i64 0,i64 0,i64 0] 147 (Dz c ⟨0,0,0,0⟩);rw [show((w0.alloc (.cells (C8 c) 30)).alloc (.cells #[i64 0,i64 0,i64 0] 95)).alloc (.cells #[i64 c.hours,.slice c.ra c.bC.length c.rc,.slice c.ba c.ar.length c.bc,.slice c.la c.lines.length c.lc,.slice c.ua c.ay.length c.uc,.slice c.sa c.stores.length c.sc,.slice c.ta c.bF.length c.tc,.slice c.oa c.outs.length c.oc,i64 0,i64 0,i64 0,i64 0] 147)=W from hW.symm];obtain ⟨K,hK⟩: ∃K,K=w0.heap.size+1+1:=⟨_,rfl⟩;obtain ⟨R,hR⟩: ∃R,R=w0.heap.size+1:=⟨_,rfl⟩;rw [<-hK,<-hR];have SJ:aY W R 95 [i64 0,i64 0,i64 0]:=by rw [hR];exact A1
 have Vf:kg W K c (ck c 0):=by rw [hK];exact A2
 have hRK:R≠K:=ae;have eQ:Hid (w0.heap.size<=K):=by show _<=_;omega
 have vp:Hid (w0.heap.size<=R):=by show _<=_;omega
 have tx:=af x0;have oZ:=af SJ;have xr:=af Vf
 clear hW x0 Z0 A0 A1 A2 hK hR SJ Vf;go_wp2_with fail
 obtain ⟨W1,hW1,x1,Z1,B1⟩:=bS W 1 (ckV K);rw [show W.alloc (.cells #[.func (.func 87) #[.pointer (some ⟨K,0,none⟩)] #[],.func (.func 88) #[.pointer (some ⟨K,0,none⟩)] #[],.func (.func 89) #[.pointer (some ⟨K,0,none⟩)] #[],.func (.func 90) #[.pointer (some ⟨K,0,none⟩)] #[],.func (.func 91) #[.pointer (some ⟨K,0,none⟩)] #[],.func (.func 92) #[.pointer (some ⟨K,0,none⟩)] #[],.func (.func 93) #[.pointer (some ⟨K,0,none⟩)] #[],.func (.func 94) #[.pointer (some ⟨K,0,none⟩)] #[]] 1)=W1 from hW1.symm];obtain ⟨G,hG⟩: ∃G,G=W.heap.size:=⟨_,rfl⟩;rw [<-hG]at B1⊢;have hGK:G≠K:=dB xr.o.lt;have HG:=af B1;have tO:=af (oZ.o.ext x1);have WD:=af (xr.o.ext x1);have jZ:=af (tx.o.trans x1)
 clear hW1 x1 Z1 B1 hG tx oZ xr;go_loopw [28] (λii wr=> ∃i:Nat,i<=8/\(ck c i).err=0/\kg wr K c (ck c i)/\aH K W1 wr/\aY wr G 1 (ckV K)/\aY wr R 95 [i64 0,i64 0,i64 0]/\ii= .int .i64 i) (λii _=>8-(intOf ii).toNat)
 case atStart=>exact ⟨0,bm,rfl,WD.o,aH.refl _ _,HG.o,tO.o,rfl⟩
 case round=>
  obtain ⟨i,hi,YI,hk,hx,hg,hr,rfl⟩:=hrel;clear HG tO WD;by_cases hlt:i<8
  .have hE:=hx.ext jZ.o eQ.o
   have HC:=af (MF w0 K c eQ.o iL.o tr.o i hlt YI wr hE hk)
   have g0:wr.cell? ⟨G,i,none⟩=some (.func (.func (WE i)) #[.pointer (some ⟨K,0,none⟩)] #[]):=by
    rw [hg.cell i];unfold ckV;simp [hlt]
   have hen:=Jr i hlt;have HST:=af (YH.o (i+1) ae);have kz:=af hx;have HG2:=af hg;have Dr:=af hr;have Qr:=af hE
   generalize WE i=F at*;obtain ⟨s1,hs1⟩: ∃s1,s1=ck c (i+1):=⟨_,rfl⟩;rw [<-hs1]at HC HST;have xq:=af hs1;clear hs1;have mn:(0:Int)<=(i:Int):=ae;have mq:(i:Int)<8:=ae;clear hk hx hg hr hE YI;go_wp2_with fail
   refine HC.o.mono ?_;rintro e W2 ⟨rfl,hK2,hx2⟩;clear g0 hen;have zS:=af hK2;have EF:=af (kz.o.trans hx2);have Ww:=af (HG2.o.but hx2 hGK);have Hy:=af (Dr.o.but hx2 hRK)
   have Td:=af (hx2.ext Qr.o eQ.o);obtain ⟨c8,c9,c10,c11,-⟩:=q8 zS.o;clear hK2 hx2 kz HG2 Dr Qr HC;by_cases h0:s1.err=0
   .have t1:(s1.err !=0)=false:=by simpa using h0
    have HEE:=af h0;clear h0 c8 c9 c10;go_wp2
    exact ⟨⟨i+1,ae,by rw [<-xq.o];exact HEE.o,by rw [<-xq.o];exact zS.o,EF.o,Ww.o,Hy.o,bq⟩,bz⟩
   .have t1:(s1.err !=0)=true:=by simpa using h0
    have hce:=HST.o h0;have Yf:=af hce;obtain ⟨fk,fi,ff,fe⟩:=s1;simp only at c8 c9 c10 c11 t1 hce;clear h0 hce;have r0:=Hy.o.cl 0 (i64 0) rfl;have r1:=Hy.o.cl 1 (i64 0) rfl;have r2:=Hy.o.cl 2 (i64 0) rfl;have q0:W2.frozen? ⟨R,0,none⟩=false:=Hy.o.frozen 0;have q1:W2.frozen? ⟨R,1,none⟩=false:=Hy.o.frozen 1;have q2:W2.frozen? ⟨R,2,none⟩=false:=Hy.o.frozen 2;have DX: ∀o,(⟨R,o,none⟩:Addr).block≠K:=λo=>hRK;have Pa:=af (((Hy.o.set 0 (i64 fk)).set 1 (i64 fi)).set 2 (i64 ff));have HKF:Hid (kg (((W2.setCell ⟨R,0,none⟩ (i64 fk)).setCell ⟨R,1,none⟩ (i64 fi)).setCell ⟨R,2,none⟩ (i64 ff)) K c ⟨fk,fi,ff,fe⟩):=((zS.o.other _ _ (DX 0)).other _ _ (DX 1)).other _ _ (DX 2);obtain ⟨d8,d9,d10,d11,-⟩:=q8 HKF.o;simp only at d8 d9 d10 d11;obtain ⟨s0,s1',s2⟩:(((W2.setCell ⟨R,0,none⟩ (i64 fk)).setCell ⟨R,1,none⟩ (i64 fi)).setCell ⟨R,2,none⟩ (i64 ff)).drew.cell? ⟨R,0,none⟩=some (i64 fk)/\(((W2.setCell ⟨R,0,none⟩ (i64 fk)).setCell ⟨R,1,none⟩ (i64 fi)).setCell ⟨R,2,none⟩ (i64 ff)).drew.cell? ⟨R,1,none⟩=some (i64 fi)/\(((W2.setCell ⟨R,0,none⟩ (i64 fk)).setCell ⟨R,1,none⟩ (i64 fi)).setCell ⟨R,2,none⟩ (i64 ff)).drew.cell? ⟨R,2,none⟩=some (i64 ff):=⟨(Pa.o.cell 0).trans rfl,(Pa.o.cell 1).trans rfl,(Pa.o.cell 2).trans rfl⟩;have zZ:Hid (Ext w0 (((W2.setCell ⟨R,0,none⟩ (i64 fk)).setCell ⟨R,1,none⟩ (i64 fi)).setCell ⟨R,2,none⟩ (i64 ff)).drew):=(((Td.o.setCell (p:=⟨R,0,none⟩) vp.o _).setCell (p:=⟨R,1,none⟩) vp.o _).setCell (p:=⟨R,2,none⟩) vp.o _).drew;clear DX;go_wp2_with fail
    refine eo (λw'=>w'.cell? ⟨K,8,none⟩=some (i64 fk)/\w'.cell? ⟨K,9,none⟩=some (i64 fi)/\w'.cell? ⟨K,10,none⟩=some (i64 ff)/\w'.cell? ⟨K,11,none⟩=some (i64 fe)) (λw'=>True) (λi=>false) aw (⟨c8,c9,c10,c11⟩) (trivial) (λdA aL=> ?_);refine eG 0 dA aL ?_;refine eG 1 dA aL ?_;refine eG 2 dA aL ?_;refine eG 3 dA aL ?_ (v:= .agg #[i64 fk,i64 fi,i64 ff]);refine eG 4 dA aL ?_;refine eG 5 dA aL ?_;refine eG 6 dA aL ?_;refine eG 7 dA aL ?_ (v:=i64 fe);refine Nj 8 rfl (λKc hK=> ?_);go_simp;refine hK.o _ _ (⟨d8,d9,d10,d11⟩) (trivial) (λdA aL=> ?_);clear hK Kc;try simp only [sS]
    refine eG 9 dA aL ?_ (v:=i64 fe);refine eh aw ?_ _;clear dA aL;go_wp2
    exact bodyPost_ret (v:= .tuple #[.agg #[i64 fk,i64 fi,i64 ff],i64 fe]) (by simp [results,results39,go_sem,s0,s1',s2]) rfl ⟨fk,fi,ff,by rw [Yf.o],zZ.o⟩
  .obtain rfl:i=8:=ae
   rw [YG.o]at YI;have hE:=hx.ext jZ.o eQ.o;have Yf:=af YI;have r0:wr.cell? ⟨R,0,none⟩=some (i64 0):=(hr.cell 0).trans rfl;have r1:wr.cell? ⟨R,1,none⟩=some (i64 0):=(hr.cell 1).trans rfl;have r2:wr.cell? ⟨R,2,none⟩=some (i64 0):=(hr.cell 2).trans rfl;have q0:wr.frozen? ⟨R,0,none⟩=false:=hr.frozen 0;have q1:wr.frozen? ⟨R,1,none⟩=false:=hr.frozen 1;have q2:wr.frozen? ⟨R,2,none⟩=false:=hr.frozen 2;have Pa:=af (((hr.set 0 (i64 0)).set 1 (i64 0)).set 2 (i64 0));obtain ⟨s0,s1',s2⟩:(((wr.setCell ⟨R,0,none⟩ (i64 0)).setCell ⟨R,1,none⟩ (i64 0)).setCell ⟨R,2,none⟩ (i64 0)).cell? ⟨R,0,none⟩=some (i64 0)/\(((wr.setCell ⟨R,0,none⟩ (i64 0)).setCell ⟨R,1,none⟩ (i64 0)).setCell ⟨R,2,none⟩ (i64 0)).cell? ⟨R,1,none⟩=some (i64 0)/\(((wr.setCell ⟨R,0,none⟩ (i64 0)).setCell ⟨R,1,none⟩ (i64 0)).setCell ⟨R,2,none⟩ (i64 0)).cell? ⟨R,2,none⟩=some (i64 0):=⟨(Pa.o.cell 0).trans rfl,(Pa.o.cell 1).trans rfl,(Pa.o.cell 2).trans rfl⟩;have zZ:Hid (Ext w0 (((wr.setCell ⟨R,0,none⟩ (i64 0)).setCell ⟨R,1,none⟩ (i64 0)).setCell ⟨R,2,none⟩ (i64 0))):=((hE.setCell (p:=⟨R,0,none⟩) vp.o _).setCell (p:=⟨R,1,none⟩) vp.o _).setCell (p:=⟨R,2,none⟩) vp.o _;clear hk hx hg hr hE YI;go_wp2
   exact bodyPost_ret (v:= .tuple #[.agg #[i64 0,i64 0,i64 0],i64 0]) (by simp [results,results39,go_sem,s0,s1',s2]) rfl ⟨0,0,0,by rw [Yf.o],zZ.o⟩
