/- Texts of the proof. -/
import Derived.Test.YtkpngkdgphojlaaGreatCc22
import Derived.Test.YtkpngkdgphojlaaGreatCc30
set_option linter.all false
namespace Go.Proofs.YtkpngkdgphojlaaGreat
open Go.RowKit
theorem CZ {us:List Nat} {u n:Nat} (h:pI us u) (hu:u≤n):us.length≤n:=by
 have h1:us.length≤u:=(show dQ u us from⟨h.wU,h.lt⟩).le;omega
structure VW (V:World) (T B D E G:Nat) (a:Option Addr) (c:Nat) (l:List Int) (cc:List Value) (ga:Option Addr) (gc:Nat) (rows:List (List Value)) (si:List (Option Addr×Nat×List Int)) (h:Nat) (ua:Option Addr) (uc:Nat) (us:List Nat) (W:World):Prop where
 q:QW V T B D a c l cc ga gc rows si W
 cut:aG W E 24 [i64 0,i64 (h:Int),.slice ua us.length uc,i64 0,i64 0,i64 0]
 own:aH W G 3 1 (.slice ua us.length uc) (dp (aC us))
 lo:D≤E∧E<G∧G≤W.heap.size
 off:(∀q,ga=some q→q.block<E)∧ ∀s∈si,∀p,s.1=some p→p.block<E
theorem VW.next {V W W':World} {T B D E G:Nat} {a:Option Addr} {c:Nat} {l:List Int} {cc:List Value} {ga:Option Addr} {gc:Nat} {rows:List (List Value)} {si:List (Option Addr×Nat×List Int)} {h:Nat} {ua:Option Addr} {uc:Nat} {us:List Nat} (v:VW V T B D E G a c l cc ga gc rows si h ua uc us W) (hT:bn W' T a c l) (hx:ak T W W'):VW V T B D E G a c l cc ga gc rows si h ua uc us W':=by
 have hp:=v.q.pos;have hl:=v.lo;have hs:=hx.size
 exact ⟨v.q.next hT hx,v.cut.but hx (by omega),v.own.but hx (by omega),by omega,v.off⟩
theorem VW.grow {V W W':World} {T B D E G:Nat} {a:Option Addr} {c:Nat} {l:List Int} {cc:List Value} {ga:Option Addr} {gc:Nat} {rows:List (List Value)} {si:List (Option Addr×Nat×List Int)} {h:Nat} {ua:Option Addr} {uc:Nat} {us:List Nat} (v:VW V T B D E G a c l cc ga gc rows si h ua uc us W) (hx:Ext W W'):VW V T B D E G a c l cc ga gc rows si h ua uc us W':=v.next (v.q.tape.ext hx) (hx.but T)
theorem VW.push {V W w5:World} {T B D E G:Nat} {a:Option Addr} {c:Nat} {l:List Int} {cc:List Value} {ga:Option Addr} {gc:Nat} {rows:List (List Value)} {si:List (Option Addr×Nat×List Int)} {h u:Nat} {ua:Option Addr} {uc:Nat} {us:List Nat} {v1:Value} (v:VW V T B D E G a c l cc ga gc rows si h ua uc us W)
 (ho:w5.ownsRow G 3 1 v1 (us.length+1) ((dp (aC us)).flatten++ [i64 (u:Int)])) (he: ∀a0,Ext a0 W→a0.heap.size≤G→Ext a0 w5) (hb: ∀k,k<W.heap.size→some k≠Value.ownBlock (.slice ua us.length uc)→w5.heap[k]?=W.heap[k]?) (hz:W.heap.size≤w5.heap.size):
 ∃g2 k2,v1= .slice g2 (us++ [u]).length k2∧w5.cell? ⟨E,2,none⟩=some (.slice ua us.length uc)∧w5.frozen? ⟨E,2,none⟩=false∧VW V T B D E G a c l cc ga gc rows si h g2 k2 (us++ [u]) (w5.setCell ⟨E,2,none⟩ (.slice g2 (us++ [u]).length k2)):=by
 obtain ⟨g2,k2,rfl⟩:=fc ho;have hp:=v.q.pos;have hl:=v.lo
 obtain ⟨K,M_,EZ,hKx⟩:=gS (base:=G) (v:= .slice ua us.length uc) hl.2.2 (fun k q=>(v.own.own.lt k q).1) he hb hz;have hle:(us++ [u]).length=us.length+1:=by simp
 have hin:dp (aC (us++ [u]))=dp (aC us)++ [[i64 (u:Int)]]:=by simp [dp,aC]
 have N7:(dp (aC us)).length=us.length:=by rw [dh,aK]
 have H8:=v.cut.but hKx (by omega);have hx:=((ak.refl E w5).et (o:=2) (v:= .slice g2 (us.length+1) k2));have hs5:=hKx.size;have Cn:=hx.size
 have Q9:aH w5 G 3 1 (.slice g2 (us.length+1) k2) (dp (aC us)++ [[i64 (u:Int)]]):=v.own.snoc (w':=w5) (r:= [i64 (u:Int)]) rfl (by rw [N7];exact ho);have hq5:=v.q.but hKx (by omega) (fun q e=>by have:=v.off.1 q e;omega) (fun s hs p e=>by have:=v.off.2 s hs p e;omega);refine ⟨g2,k2,by rw [hle],(H8.cell 2).trans rfl,H8.frozen 2,?_⟩;rw [hle];refine ⟨hq5.but hx (by omega) (fun q e=>by have:=v.off.1 q e;omega) (fun s hs p e=>by have:=v.off.2 s hs p e;omega),?_,?_,by omega,v.off⟩
 ·rw [hle];exact H8.set 2 _
 ·rw [hle,hin];exact Q9.but hx hl.2.1
set_option maxHeartbeats 8000000 in
set_option maxRecDepth 100000 in
theorem C0 (V:World) (c:aq) (a:Option Addr) (cp:Nat) (l:List Int) (hc:aT V c) (hl:aA V a cp l) (hh:1≤c.hours∧c.hours≤1000) (hu:1≤c.aj.length∧c.aj.length≤1000):
 Calls Tryz.prog 17 #[.agg (C8 c),.slice a l.length cp] V fun e w'=> ∃(ga:Option Addr) (gc:Nat) (xs:List cq),e= .returned (.slice ga xs.length gc)∧tV w' ga gc xs∧xs.length≤3∧(∀x∈xs,cQ c x=true∧Fr V.heap.size x.ua)∧Ext V w':=by
 try unfold C8
 have HL:=ae hl;have dB:=ae hc
 have HH:=ae hh;have HU:=ae hu
 obtain ⟨nh,hnh⟩: ∃nh:Nat,c.hours=(nh:Int):=⟨c.hours.toNat,by omega⟩;have HNH:Hid (c.hours=(nh:Int)∧1≤nh∧nh≤1000):=by(show _∧_∧_;omega)
 obtain ⟨nu,OD⟩: ∃nu,nu=c.aj.length:=⟨_,rfl⟩;have IQ:Hid (nu=c.aj.length∧1≤nu∧nu≤1000):=by(show _∧_∧_;omega)
 clear hc hl hh hu hnh OD;go_enter Tryz.func17,Tryz.ntmps17
 go_upto_region 1 with fail
 obtain ⟨W0,hW,x0,Z0,A0⟩:=aB V 32 c.cells;rw [show V.alloc (.cells (C8 c) 32)=W0 from hW.symm];obtain ⟨B,hB⟩: ∃B,B=V.heap.size:=⟨_,rfl⟩;rw [←hB]at A0⊢;have hz0:W0.heap.size=V.heap.size+1:=by rw [hW];simp
 have HA:=ae A0;have HX:=ae x0
 clear hW Z0 A0 x0;go_wp2_with fail
 refine (GW W0 a cp l).mono ?_;rintro e W1 ⟨rfl,hT,hx⟩;obtain ⟨T,R1⟩: ∃T,T=W0.heap.size:=⟨_,rfl⟩;rw [←R1]at hT⊢;have hs1:=hT.lt;have m_:Hid (V.heap.size≤T):=by(show _≤_;omega)
 obtain ⟨D,hD⟩: ∃D,D=W1.heap.size:=⟨_,rfl⟩
 have HQ:Hid (QW V T B D a cp l c.cells none 0 (([]:List cq).map cq.cells) (jd []) W1):=by
  rw [hD];exact ⟨hT,HA.out.ext hx,HX.out.trans hx,aH.nil _ _ _ _,fun s hs=>absurd hs (by simp [jd]),by omega⟩
 have eQ:=ae (eu.of V V T a cp l m_.out (Ext.refl V) HL.out);clear R1 hT hx hz0 hB HA HX hs1 hD;go_wp2_with fail
 refine (eQ.out W1 4 (HQ.out.ext.but T) HQ.out.tape (by decide) (by decide)).mono ?_;rintro e W2 ⟨kv,rfl,B9,hT,hx⟩;replace HQ:=ae (HQ.out.next hT hx);clear hT hx;obtain ⟨n2,Ab⟩: ∃n2:Nat,kv=(n2:Int):=⟨kv.toNat,by omega⟩;subst Ab;have Cq:Hid (n2≤3):=by(show _≤_;omega)
 clear B9;go_wp2_with fail
 go_loopw [5,7] (fun lv v wr=> ∃(k:Nat) (xs:List cq) (ga:Option Addr) (gc:Nat),k+xs.length≤3∧(∀x∈xs,cQ c x=true)∧lv= .slice ga xs.length gc∧QW V T B D a cp l c.cells ga gc (xs.map cq.cells) (jd xs) wr∧v= .int .i64 (k:Int)) (fun _ v _=>(intOf v).toNat)
 case atStart=>exact ⟨n2,[],none,0,Cq.out,fun x h=>absurd h (by simp),rfl,HQ.out,rfl⟩
 case round=>
  obtain ⟨k,xs,ga,gc,hk,mb,rfl,hQ,rfl⟩:=hrel;clear HQ;have HQ:=ae hQ;have OO:=ae mb;have HK:=ae hk
  clear hQ mb hk;by_cases R3:0<k
  ·have b0:(0:Int)<(k:Int):=by omega
   have nW:=ae R3;have q3:IntKind.i64.wrap ((k:Int)-1)=((k-1:Nat):Int):=by rw [IntKind.wrap_i64];have:=HK.out;omega
   have q4:wrap64 ((k:Int)-1)=((k-1:Nat):Int):=by unfold wrap64;have:=HK.out;omega
   have c0:=HQ.out.box.cl 0 (i64 c.hours) rfl;go_wp2_with fail
   refine (eQ.out wr c.hours (HQ.out.ext.but T) HQ.out.tape (by have:=HH.out;omega) (by have:=HH.out;omega)).mono ?_;rintro e W3 ⟨hv,rfl,ZH,hT,hx⟩;replace HQ:=ae (HQ.out.next hT hx);obtain ⟨h,Wd⟩: ∃h:Nat,hv=(h:Int):=⟨hv.toNat,by omega⟩;subst Wd;have Tw:Hid (0≤(h:Int)∧(h:Int)<c.hours):=ZH;clear hT hx ZH c0;go_wp2_with fail
   refine (eQ.out W3 2 (HQ.out.ext.but T) HQ.out.tape (by decide) (by decide)).mono ?_;rintro e W4 ⟨q,rfl,G4,hT,hx⟩;replace HQ:=ae (HQ.out.next hT hx);clear hT hx G4;have c4:=HQ.out.box.cl 4 (.slice c.ua c.aj.length c.uc) rfl;rcases Bool.eq_false_or_eq_true (q==0)with hq|hq
   ·go_wp2_with fail
    refine (eQ.out W4 (c.aj.length:Int) (HQ.out.ext.but T) HQ.out.tape (by have:=HU.out;omega) (by have:=HU.out;omega)).mono ?_;rintro e W5 ⟨u,rfl,ZI,hT,hx⟩;replace HQ:=ae (HQ.out.next hT hx);have H_u:=ae ZI;clear hT hx ZI c4;have q1:IntKind.i64.wrap ((h:Int)+1)=(h:Int)+1:=by rw [IntKind.wrap_i64];have:=Tw.out;have:=HH.out;omega
    go_wp2_with fail
    refine (eQ.out W5 ((h:Int)+1) (HQ.out.ext.but T) HQ.out.tape (by omega) (by have:=Tw.out;have:=HH.out;omega)).mono ?_;rintro e W6 ⟨kk,rfl,R4,hT,hx⟩;replace HQ:=ae (HQ.out.next hT hx);have We:=ae R4;clear hT hx R4 q1;obtain ⟨x,Km⟩: ∃x:cq,x=⟨1,(h:Int),none,0,[],0,u,kk⟩:=⟨_,rfl⟩;have Wh:Hid (cQ c x=true):=by rw [Km];exact Ea Tw.out H_u.out We.out
    have B8:Hid ([i64 1,i64 (h:Int),.slice none 0 0,i64 0,i64 u,i64 kk]=x.cells∧x.ua=none∧x.uc=0∧x.aj= []):=by rw [Km];exact ⟨rfl,rfl,rfl,rfl⟩
    clear Km;have nQ:(xs.map cq.cells).length=xs.length:=List.length_map _;have w_:=ae nQ;clear nQ
    go_wp2_with (first|(refine gL rfl 44 _ rfl 24 (.agg #[i64 0,i64 0,.slice none 0 0,i64 0,i64 0,i64 0]) 6 64 Tryz.underlying44 Tryz.info_cut (by decide) (by decide) [i64 1,i64 (h:Int),.slice none 0 0,i64 0,i64 u,i64 kk] rfl rfl ?_
                        intro W7 kV x7;have oL:=ae (HQ.out.grow x7);have n_:=ae kV;clear kV x7 HQ)|(
     at_builtin
     refine aV _ rfl _ _ 44 rfl D 24 (.agg #[i64 0,i64 0,.slice none 0 0,i64 0,i64 0,i64 0]) 6 64 Tryz.underlying44 Tryz.info_cut rfl (by decide) (.slice ga xs.length gc) xs.length (xs.map cq.cells).flatten rfl ?c1 (some ⟨W6.heap.size,0,none⟩) 1 1 [i64 1,i64 (h:Int),.slice none 0 0,i64 0,i64 u,i64 kk] rfl rfl ?c2 ?c3 ?c4 ?c5 (by decide) ?c6 ?_
     case c1=>have h5:=oL.out.own.own;rw [w_.out]at h5;exact h5
     case c2=>exact fun _=>⟨_,rfl,n_.out.adds⟩
     case c3=>rw [B8.out.1];exact fun u hu=>List.all_eq_true.1 x.one u hu
     case c4=>intro e;cases e
     case c5=>have:=HK.out;omega
     case c6=>exact oL.out.pos.2.2.2.2.2
     intro v1 w5 ho he hb hz hv;obtain ⟨zQ,xJ⟩: ∃zQ,zQ=xs++ [x]:=⟨_,rfl⟩;have hx2:zQ.length=xs.length+1:=by rw [xJ,List.length_append];rfl
     obtain ⟨g2,k2,rfl,Eh⟩:=oL.out.push (r:=x.cells) rfl (by rw [w_.out,←B8.out.1];exact ho.out) he.out (by rw [w_.out];exact hb.out) hz.out (by rw [w_.out];exact hv.out);rw [w_.out,←hx2]
     have vE:Hid (QW V T B D a cp l c.cells g2 k2 (zQ.map cq.cells) (jd zQ) w5):=by
      have h5:=Eh.uU (b:=x.ua) (k:=x.uc) (z:=x.aj) (by rw [B8.out.2.1,B8.out.2.2.1,B8.out.2.2.2];exact aA.nil _) (fun p hp=>by rw [B8.out.2.1]at hp;cases hp);rw [xJ];have e1:(xs++ [x]).map cq.cells=xs.map cq.cells++ [x.cells]:=by simp
      have e2:jd (xs++ [x])=jd xs++ [(x.ua,x.uc,x.aj)]:=by simp [jd]
      rw [e1,e2];exact h5
     have dC:Hid (zQ.length=xs.length+1∧ ∀y∈zQ,cQ c y=true):=⟨hx2,fun y hy=>by
      rw [xJ]at hy;rcases List.mem_append.1 hy with e|e
      ·exact OO.out y e
      ·rw [List.mem_singleton]at e;rw [e];exact Wh.out⟩
     clear oL n_ ho he hb hz hv Eh hx2 xJ B8))
    exact ⟨⟨k-1,zQ,g2,k2,by(have:=dC.out.1;have:=HK.out;have:=nW.out;omega),dC.out.2,rfl,vE.out,by first|rfl|exact congrArg (Value.int IntKind.i64) q4⟩,by first|exact Nat.lt_of_le_of_lt (Nat.le_of_eq (congrArg Int.toNat q4)) (by show(((k-1:Nat):Int)).toNat<((k:Int)).toNat;omega)|(show(((k-1:Nat):Int)).toNat<((k:Int)).toNat;omega)⟩
   ·go_upto_region 10 with fail
    have zo:=HQ.out.pos;have qx:=HQ.out.far;obtain ⟨W5,E8,x5,-,A5⟩:=aB W4 24 [i64 0,i64 (h:Int),.slice none ([]:List Nat).length 0,i64 0,i64 0,i64 0];rw [show W4.alloc (.cells #[i64 0,i64 (h:Int),.slice none 0 0,i64 0,i64 0,i64 0] 24)=W5 from E8.symm];obtain ⟨E,hE⟩: ∃E,E=W4.heap.size:=⟨_,rfl⟩;obtain ⟨G,hG⟩: ∃G,G=W5.heap.size:=⟨_,rfl⟩;have hs5:W5.heap.size=W4.heap.size+1:=by rw [E8];simp
    rw [←hE]at A5⊢;have HV:Hid (VW V T B D E G a cp l c.cells ga gc (xs.map cq.cells) (jd xs) h none 0 [] W5):=⟨HQ.out.grow x5,A5,aH.nil _ _ _ _,by omega,⟨fun q e=>by have:=qx.1 q e;omega,fun s hs p e=>by have:=qx.2 s hs p e;omega⟩⟩;clear E8 x5 A5 hE hG hs5 zo qx c4 HQ
    go_upto_block 2 with fail
    go_cut [] (fun wx=> ∃(us:List Nat) (ua:Option Addr) (uc:Nat),pI us c.aj.length∧0<us.length∧VW V T B D E G a cp l c.cells ga gc (xs.map cq.cells) (jd xs) h ua uc us wx)
    case first=>
     as_aux_lemma=>
      go_wp2_with fail
      go_loopw [10] (fun v wr=> ∃(u:Nat) (us:List Nat) (ua:Option Addr) (uc:Nat),u≤c.aj.length∧pI us u∧(u=c.aj.length→0<us.length)∧VW V T B D E G a cp l c.cells ga gc (xs.map cq.cells) (jd xs) h ua uc us wr∧v= .int .i64 (u:Int)) (fun v _=>c.aj.length-(intOf v).toNat)
      case atStart=>exact ⟨0,[],none,0,Nat.zero_le _,pI.nil,fun e=>absurd e (by have:=HU.out;omega),HV.out,rfl⟩
      case round=>
       obtain ⟨u,us,ua,uc,hu,has,Dv,hV,rfl⟩:=hrel;clear HV;have HV:=ae hV;have HAS:=ae has;have Cp:=ae Dv;have rP:=ae hu
       clear hV has Dv hu;have c4:=HV.out.q.box.cl 4 (.slice c.ua c.aj.length c.uc) rfl;have H9:us.length≤2000:=CZ HAS.out (by have:=rP.out;have:=HU.out;omega);have H_:=ae H9;clear H9;by_cases hlt:u<c.aj.length
       ·have b1:(u:Int)<(c.aj.length:Int):=by omega
        have mG:=ae hlt;go_wp2_with fail
        refine (eQ.out wr 2 (HV.out.q.ext.but T) HV.out.q.tape (by decide) (by decide)).mono ?_;rintro e W6 ⟨y,rfl,Bz,hT,hx⟩;replace HV:=ae (HV.out.next hT hx);clear hT hx Bz c4;have c4:=HV.out.q.box.cl 4 (.slice c.ua c.aj.length c.uc) rfl;have e2:=HV.out.cut.cl 2 (.slice ua us.length uc) rfl;have q5:IntKind.i64.wrap ((u:Int)+1)=((u+1:Nat):Int):=by rw [IntKind.wrap_i64];have:=HU.out;omega
        have q6:wrap64 ((u:Int)+1)=((u+1:Nat):Int):=by unfold wrap64;have:=HU.out;omega
        have q7:IntKind.i64.wrap ((c.aj.length:Int)-1)=(c.aj.length:Int)-1:=by rw [IntKind.wrap_i64];have:=HU.out;omega
        rcases Bool.eq_false_or_eq_true (y==1)with hy|hy
        ·
             go_upto_region 14 with fail
             have HOW:Hid ((W6.alloc (.cells #[.int .i64 (u:Int)] 3)).ownsRow G 3 1 (.slice ua us.length uc) us.length (dp (aC us)).flatten):=by
              have h5:=(HV.out.grow ((Ext.refl W6).alloc (.cells #[.int .i64 (u:Int)] 3))).own.own;rw [dh,aK]at h5;exact h5
             have Wi:=HV.out.lo
             go_wp2_with (
              at_builtin
              refine aV _ rfl _ _ 22 rfl G 3 (.int .i64 0) 1 8 Tryz.underlying22 Tryz.info_int rfl (by decide) (.slice ua us.length uc) us.length (dp (aC us)).flatten rfl ?c1 (some ⟨W6.heap.size,0,none⟩) 1 1 [i64 (u:Int)] rfl rfl ?c2 ?c3 ?c4 ?c5 (by decide) ?c6 ?_
              case c1=>exact HOW.out
              case c2=>exact fun _=>⟨_,rfl,cC W6 3 [i64 (u:Int)]⟩
              case c3=>intro z hz;rw [List.mem_singleton]at hz;subst hz;rfl
              case c4=>intro e;cases e
              case c5=>have:=H_.out;omega
              case c6=>simp;omega
              intro v1 w5 ho he hb hz hv;obtain ⟨g2,k2,rfl,d2,f2,hV2⟩:=(HV.out.grow ((Ext.refl W6).alloc (.cells #[.int .i64 (u:Int)] 3))).push ho.out he.out hb.out hz.out;obtain ⟨C1,uk⟩: ∃C1,C1=us++ [u]:=⟨_,rfl⟩;rw [←uk]at hV2⊢;have Hw:=ae hV2;have Am:=ae uk;clear HV HOW ho he hb hz hv hV2 Wi e2 c4 uk)
             exact ⟨⟨u+1,C1,g2,k2,by(have:=mG.out;omega),by rw [Am.out];exact HAS.out.snoc,fun _=>by rw [Am.out];simp,Hw.out,by first|rfl|exact congrArg (Value.int IntKind.i64) q6⟩,by first|(show c.aj.length-(((u+1:Nat):Int)).toNat<c.aj.length-((u:Int)).toNat;have:=mG.out;omega)|exact Nat.lt_of_le_of_lt (Nat.le_of_eq (congrArg (fun z=>c.aj.length-Int.toNat z) q6)) (by show c.aj.length-(((u+1:Nat):Int)).toNat<c.aj.length-((u:Int)).toNat;have:=mG.out;omega)⟩
        ·by_cases hz:us.length=0
         ·have t0:((us.length:Int)==0)=true:=by rw [hz];rfl
          by_cases hl:u+1=c.aj.length
          ·have t1:((u:Int)==(c.aj.length:Int)-1)=true:=by rw [beq_iff_eq];omega
           clear hl hz;go_upto_region 14 with fail
           have HOW:Hid ((W6.alloc (.cells #[.int .i64 (u:Int)] 3)).ownsRow G 3 1 (.slice ua us.length uc) us.length (dp (aC us)).flatten):=by
             have h5:=(HV.out.grow ((Ext.refl W6).alloc (.cells #[.int .i64 (u:Int)] 3))).own.own;rw [dh,aK]at h5;exact h5
           have Wi:=HV.out.lo
           go_wp2_with (
             at_builtin
             refine aV _ rfl _ _ 22 rfl G 3 (.int .i64 0) 1 8 Tryz.underlying22 Tryz.info_int rfl (by decide) (.slice ua us.length uc) us.length (dp (aC us)).flatten rfl ?c1 (some ⟨W6.heap.size,0,none⟩) 1 1 [i64 (u:Int)] rfl rfl ?c2 ?c3 ?c4 ?c5 (by decide) ?c6 ?_
             case c1=>exact HOW.out
             case c2=>exact fun _=>⟨_,rfl,cC W6 3 [i64 (u:Int)]⟩
             case c3=>intro z hz;rw [List.mem_singleton]at hz;subst hz;rfl
             case c4=>intro e;cases e
             case c5=>have:=H_.out;omega
             case c6=>simp;omega
             intro v1 w5 ho he hb hz hv;obtain ⟨g2,k2,rfl,d2,f2,hV2⟩:=(HV.out.grow ((Ext.refl W6).alloc (.cells #[.int .i64 (u:Int)] 3))).push ho.out he.out hb.out hz.out;obtain ⟨C1,uk⟩: ∃C1,C1=us++ [u]:=⟨_,rfl⟩;rw [←uk]at hV2⊢;have Hw:=ae hV2;have Am:=ae uk;clear HV HOW ho he hb hz hv hV2 Wi e2 c4 uk)
           exact ⟨⟨u+1,C1,g2,k2,by(have:=mG.out;omega),by rw [Am.out];exact HAS.out.snoc,fun _=>by rw [Am.out];simp,Hw.out,by first|rfl|exact congrArg (Value.int IntKind.i64) q6⟩,by first|(show c.aj.length-(((u+1:Nat):Int)).toNat<c.aj.length-((u:Int)).toNat;have:=mG.out;omega)|exact Nat.lt_of_le_of_lt (Nat.le_of_eq (congrArg (fun z=>c.aj.length-Int.toNat z) q6)) (by show c.aj.length-(((u+1:Nat):Int)).toNat<c.aj.length-((u:Int)).toNat;have:=mG.out;omega)⟩
          ·have t1:((u:Int)==(c.aj.length:Int)-1)=false:=by rw [beq_eq_false_iff_ne];omega
           have D8:=ae hl;clear hl hz;go_wp2_with fail
           exact ⟨⟨u+1,us,ua,uc,by(have:=mG.out;omega),HAS.out.next,fun e=>absurd e D8.out,HV.out,by first|rfl|exact congrArg (Value.int IntKind.i64) q6⟩,by first|(show c.aj.length-(((u+1:Nat):Int)).toNat<c.aj.length-((u:Int)).toNat;have:=mG.out;omega)|exact Nat.lt_of_le_of_lt (Nat.le_of_eq (congrArg (fun z=>c.aj.length-Int.toNat z) q6)) (by show c.aj.length-(((u+1:Nat):Int)).toNat<c.aj.length-((u:Int)).toNat;have:=mG.out;omega)⟩
         ·have t0:((us.length:Int)==0)=false:=by rw [beq_eq_false_iff_ne];omega
          have HNZ:Hid (0<us.length):=Nat.pos_of_ne_zero hz;clear hz;go_wp2_with fail
          exact ⟨⟨u+1,us,ua,uc,by(have:=mG.out;omega),HAS.out.next,fun e=>HNZ.out,HV.out,by first|rfl|exact congrArg (Value.int IntKind.i64) q6⟩,by first|(show c.aj.length-(((u+1:Nat):Int)).toNat<c.aj.length-((u:Int)).toNat;have:=mG.out;omega)|exact Nat.lt_of_le_of_lt (Nat.le_of_eq (congrArg (fun z=>c.aj.length-Int.toNat z) q6)) (by show c.aj.length-(((u+1:Nat):Int)).toNat<c.aj.length-((u:Int)).toNat;have:=mG.out;omega)⟩
       ·obtain rfl:u=c.aj.length:=by have:=rP.out;omega
        go_wp2_with fail
        go_meet
        exact ⟨us,ua,uc,HAS.out,Cp.out (by trivial),HV.out⟩
    case rest=>
     obtain ⟨us,ua,uc,has,Dv,hV⟩:=hcut;generalize wc=W7 at*;clear HV;have HV:=ae hV;have HAS:=ae has;have Cp:=ae Dv
     clear hV has Dv;have H9:us.length≤1000:=CZ HAS.out HU.out.2;have H_:=ae H9;clear H9;have e2:=HV.out.cut.cl 2 (.slice ua us.length uc) rfl;go_wp2_with fail
     refine (eQ.out W7 (us.length:Int) (HV.out.q.ext.but T) HV.out.q.tape (by have:=Cp.out;omega) (by have:=H_.out;omega)).mono ?_;rintro e W8 ⟨y,rfl,Bz,hT,hx⟩;replace HV:=ae (HV.out.next hT hx);have HY:=ae Bz;clear hT hx Bz e2;have q1:IntKind.i64.wrap (1+y)=1+y:=by rw [IntKind.wrap_i64];have:=HY.out;have:=H_.out;omega
     have e3:=HV.out.cut.cl 3 (i64 0) rfl;have f3:=HV.out.cut.frozen 3;go_upto_region 16 with fail
     obtain ⟨x,Km⟩: ∃x:cq,x=⟨0,(h:Int),ua,uc,aC us,1+y,0,0⟩:=⟨_,rfl⟩;have Wh:Hid (cQ c x=true):=by rw [Km];exact BA Tw.out HAS.out Cp.out (by have:=HY.out;omega)
     have iD:=((ak.refl E W8).et (o:=3) (v:=i64 (1+y)))
     have Oi:Hid (aG (W8.setCell ⟨E,3,none⟩ (i64 (1+y))) E 24 x.cells):=by
      have h5:=HV.out.cut.set 3 (i64 (1+y));have e5:x.cells= [i64 0,i64 (h:Int),.slice ua us.length uc,i64 (1+y),i64 0,i64 0]:=by rw [Km];simp only [cq.cells];rw [aK]
      rw [e5];exact h5
     have HQ:Hid (QW V T B D a cp l c.cells ga gc (xs.map cq.cells) (jd xs++ [(x.ua,x.uc,x.aj)]) (W8.setCell ⟨E,3,none⟩ (i64 (1+y)))):=by
      have zo:=HV.out.lo;have Es:=HV.out.off;have h5:=HV.out.q.but iD zo.1 (fun q e=>by have:=Es.1 q e;omega) (fun s hs p e=>by have:=Es.2 s hs p e;omega);have ZJ:=HV.out.own.but iD zo.2.1;have hlt: ∀p,ua=some p→G≤p.block∧p.block<(W8.setCell ⟨E,3,none⟩ (i64 (1+y))).heap.size:=fun p hp=>ZJ.own.lt p.block (by rw [hp];rfl);obtain ⟨ra,rc,oN,tM,Bx⟩:=ZJ.recs (by decide);rw [dh,aK]at oN;simp only [Value.slice.injEq,true_and]at oN;obtain ⟨rfl,rfl⟩:=oN
      have hI:aA (W8.setCell ⟨E,3,none⟩ (i64 (1+y))) ua uc (aC us):=aA.kn tM (fun z hz=>by
       obtain ⟨j,hj,rfl⟩:=List.mem_map.1 hz;have:=HAS.out.lt j hj;have:=HU.out
       unfold br;omega)
      have h6:=h5.uU (b:=x.ua) (k:=x.uc) (z:=x.aj) (by rw [Km];exact hI) (fun p hp=>by
       rw [Km]at hp;have h7:=hlt p hp;exact ⟨by omega,h7.2,fun q e=>by have:=Es.1 q e;omega⟩)
      exact h6
     clear Km iD HV e3 f3 q1;generalize (W8.setCell ⟨E,3,none⟩ (i64 (1+y)))=W9 at*;have xk: ∀j v,x.cells[j]?=some v→W9.cell? ((⟨E,0,none⟩:Addr).add j)=some v:=fun j v hj=>by rw [dP,Oi.out.cell j];exact hj
     have nQ:(xs.map cq.cells).length=xs.length:=List.length_map _;have w_:=ae nQ;clear nQ
     go_wp2_with (first|(refine aQ rfl 24 _ rfl ⟨E,0,none⟩ rfl x.cells _ xk rfl rfl rfl ?_)|(
                       refine gL rfl 44 _ rfl 24 (.agg #[i64 0,i64 0,.slice none 0 0,i64 0,i64 0,i64 0]) 6 64 Tryz.underlying44 Tryz.info_cut (by decide) (by decide) x.cells rfl rfl ?_;intro jG kV ZK;have oL:=ae (HQ.out.grow ZK);have n_:=ae kV;clear kV ZK HQ xk Oi)|(
      at_builtin
      refine aV _ rfl _ _ 44 rfl D 24 (.agg #[i64 0,i64 0,.slice none 0 0,i64 0,i64 0,i64 0]) 6 64 Tryz.underlying44 Tryz.info_cut rfl (by decide) (.slice ga xs.length gc) xs.length (xs.map cq.cells).flatten rfl ?c1 (some ⟨W9.heap.size,0,none⟩) 1 1 x.cells rfl rfl ?c2 ?c3 ?c4 ?c5 (by decide) ?c6 ?_
      case c1=>have h5:=oL.out.own.own;rw [w_.out]at h5;exact h5
      case c2=>exact fun _=>⟨_,rfl,n_.out.adds⟩
      case c3=>exact fun u hu=>List.all_eq_true.1 x.one u hu
      case c4=>intro e;cases e
      case c5=>have:=HK.out;omega
      case c6=>exact oL.out.pos.2.2.2.2.2
      intro v1 w5 ho he hb hz hv;obtain ⟨zQ,xJ⟩: ∃zQ,zQ=xs++ [x]:=⟨_,rfl⟩;have hx2:zQ.length=xs.length+1:=by rw [xJ,List.length_append];rfl
      obtain ⟨g2,k2,rfl,Eh⟩:=oL.out.push (r:=x.cells) rfl (by rw [w_.out];exact ho.out) he.out (by rw [w_.out];exact hb.out) hz.out (by rw [w_.out];exact hv.out);rw [w_.out,←hx2]
      have vE:Hid (QW V T B D a cp l c.cells g2 k2 (zQ.map cq.cells) (jd zQ) w5):=by
       rw [xJ];have e1:(xs++ [x]).map cq.cells=xs.map cq.cells++ [x.cells]:=by simp
       have e2:jd (xs++ [x])=jd xs++ [(x.ua,x.uc,x.aj)]:=by simp [jd]
       rw [e1,e2];exact Eh
      have dC:Hid (zQ.length=xs.length+1∧ ∀y∈zQ,cQ c y=true):=⟨hx2,fun y hy=>by
       rw [xJ]at hy;rcases List.mem_append.1 hy with e|e
       ·exact OO.out y e
       ·rw [List.mem_singleton]at e;rw [e];exact Wh.out⟩
      clear oL n_ ho he hb hz hv Eh hx2 xJ))
     exact ⟨⟨k-1,zQ,g2,k2,by(have:=dC.out.1;have:=HK.out;have:=nW.out;omega),dC.out.2,rfl,vE.out,by first|rfl|exact congrArg (Value.int IntKind.i64) q4⟩,by first|exact Nat.lt_of_le_of_lt (Nat.le_of_eq (congrArg Int.toNat q4)) (by show(((k-1:Nat):Int)).toNat<((k:Int)).toNat;omega)|(show(((k-1:Nat):Int)).toNat<((k:Int)).toNat;omega)⟩
  ·obtain rfl:k=0:=by omega
   go_wp2_with fail
   go_ret;exact ⟨ga,gc,xs,rfl,HQ.out.VH,by(have:=HK.out;omega),fun x hx=>⟨OO.out x hx,HQ.out.fr x hx⟩,HQ.out.ext⟩
set_option maxRecDepth 100000 in
theorem zR (V:World) (a b:Option Addr) (n m ca cb:Nat):
 Calls Tryz.prog 7 #[.slice a n ca,.slice b m cb] V fun e w'=>e= .returned (.bool (decide (n≤200)&&decide (m≤200)))∧w'=V:=by
 go_enter Tryz.func7,Tryz.ntmps7
 by_cases hn:n≤200
 ·have g1:(n:Int)≤200:=by omega
  by_cases hm:m≤200
  ·have g2:(m:Int)≤200:=by omega
   have e1:(decide (n≤200)&&decide (m≤200))=true:=by simp [hn,hm]
   rw [e1];go_wp2_with fail
   go_ret;exact ⟨rfl,rfl⟩
  ·have g2:decide ((m:Int)≤200)=false:=by rw [decide_eq_false_iff_not];omega
   have e1:(decide (n≤200)&&decide (m≤200))=false:=by simp [hm]
   rw [e1];go_wp2_with fail
   go_ret;exact ⟨rfl,rfl⟩
 ·have g1:decide ((n:Int)≤200)=false:=by rw [decide_eq_false_iff_not];omega
  have e1:(decide (n≤200)&&decide (m≤200))=false:=by simp [hn]
  rw [e1];go_wp2_with fail
  go_ret;exact ⟨rfl,rfl⟩
set_option maxRecDepth 100000 in
theorem zS (V:World) (x:cq):
 Calls Tryz.prog 8 #[.agg #[i64 x.kind,i64 x.hour,.slice x.ua x.aj.length x.uc,i64 x.least,i64 x.unit,i64 x.length]] V fun e w'=>e= .returned (.bool (decide (x.aj.length≤8)))∧Ext V w':=by
 obtain ⟨t,ht⟩: ∃t,t=decide (x.aj.length≤8):=⟨_,rfl⟩;have g1:decide ((x.aj.length:Int)≤8)=t:=by rw [ht];exact decide_eq_decide.2 (by omega)
 rw [←ht];clear ht;go_enter Tryz.func8,Tryz.ntmps8
 go_upto_region 1 with fail
 obtain ⟨W0,hW,x0,Z0,A0⟩:=aB V 24 x.cells;rw [show V.alloc (.cells #[i64 x.kind,i64 x.hour,.slice x.ua x.aj.length x.uc,i64 x.least,i64 x.unit,i64 x.length] 24)=W0 from hW.symm];obtain ⟨B,hB⟩: ∃B,B=V.heap.size:=⟨_,rfl⟩;rw [←hB]at A0⊢;have HX:=ae x0;have e2:W0.cell? ⟨B,2,none⟩=some (.slice x.ua x.aj.length x.uc):=(A0.cell 2).trans rfl;clear hW Z0 A0 x0 hB;go_wp2_with fail
 go_ret;exact ⟨by rw [←g1];simp,HX.out⟩
set_option maxHeartbeats 2000000 in
set_option maxRecDepth 100000 in
theorem Kn (V:World) (c:aq) (hc:aT V c):
 Calls Tryz.prog 9 #[.agg (C8 c)] V fun e w'=> ∃t:Bool,e= .returned (.bool t)∧(t=true→c.au.length≤5∧c.lines.length≤6∧c.aj.length≤4∧c.stores.length≤4∧c.aN.length≤4∧c.outs.length≤4∧c.hours≤3)∧Ext V w':=by
 try unfold C8
 have dB:=ae hc;clear hc;go_enter Tryz.func9,Tryz.ntmps9
 go_upto_region 1 with fail
 obtain ⟨W0,hW,x0,Z0,A0⟩:=aB V 32 c.cells;rw [show V.alloc (.cells (C8 c) 32)=W0 from hW.symm];obtain ⟨B,hB⟩: ∃B,B=V.heap.size:=⟨_,rfl⟩;rw [←hB]at A0⊢;have HX:=ae x0;have HA:=ae A0
 clear hW Z0 A0 x0 hB;obtain ⟨k0,k1,k2,k3,k4,k5,k6,k7⟩:=aq.at HA.out;clear k1;by_cases h0:5<c.au.length
 ·have g0:(5:Int)<(c.au.length:Int):=by omega
  go_wp2_with fail
  go_ret;exact ⟨false,rfl,(fun e=>by cases e),HX.out⟩
 ·have g0:decide ((5:Int)<(c.au.length:Int))=false:=by rw [decide_eq_false_iff_not];omega
  by_cases h1:6<c.lines.length
  ·have g1:(6:Int)<(c.lines.length:Int):=by omega
   go_wp2_with fail
   go_ret;exact ⟨false,rfl,(fun e=>by cases e),HX.out⟩
  ·have g1:decide ((6:Int)<(c.lines.length:Int))=false:=by rw [decide_eq_false_iff_not];omega
   by_cases h2:4<c.aj.length
   ·have g2:(4:Int)<(c.aj.length:Int):=by omega
    go_wp2_with fail
    go_ret;exact ⟨false,rfl,(fun e=>by cases e),HX.out⟩
   ·have g2:decide ((4:Int)<(c.aj.length:Int))=false:=by rw [decide_eq_false_iff_not];omega
    by_cases h3:4<c.stores.length
    ·have g3:(4:Int)<(c.stores.length:Int):=by omega
     go_wp2_with fail
     go_ret;exact ⟨false,rfl,(fun e=>by cases e),HX.out⟩
    ·have g3:decide ((4:Int)<(c.stores.length:Int))=false:=by rw [decide_eq_false_iff_not];omega
     by_cases h4:4<c.aN.length
     ·have g4:(4:Int)<(c.aN.length:Int):=by omega
      go_wp2_with fail
      go_ret;exact ⟨false,rfl,(fun e=>by cases e),HX.out⟩
     ·have g4:decide ((4:Int)<(c.aN.length:Int))=false:=by rw [decide_eq_false_iff_not];omega
      by_cases h5:4<c.outs.length
      ·have g5:(4:Int)<(c.outs.length:Int):=by omega
       go_wp2_with fail
       go_ret;exact ⟨false,rfl,(fun e=>by cases e),HX.out⟩
      ·have g5:decide ((4:Int)<(c.outs.length:Int))=false:=by rw [decide_eq_false_iff_not];omega
       by_cases h6:3<c.hours
       ·go_wp2_with fail
        go_ret;exact ⟨false,rfl,(fun e=>by cases e),HX.out⟩
       ·have HT:Hid (c.au.length≤5∧c.lines.length≤6∧c.aj.length≤4∧c.stores.length≤4∧c.aN.length≤4∧c.outs.length≤4∧c.hours≤3):=by(show _∧_∧_∧_∧_∧_∧_;omega)
        have g6:decide ((3:Int)<c.hours)=false:=by rw [decide_eq_false_iff_not];exact h6
        have HU:=ae HT.out.2.2.1;clear h0 h1 h2 h3 h4 h5 h6;go_wp2_with fail
        clear g0 g1 g2 g3 g4 g5 g6 k0 k2 k3 k4 k5 k6 k7;go_loopw [3] (fun ii wr=> ∃i:Nat,i≤c.aj.length∧Ext W0 wr∧ii= .int .i64 (i:Int)) (fun ii _=>c.aj.length-(intOf ii).toNat)
        case atStart=>exact ⟨0,Nat.zero_le _,Ext.refl _,rfl⟩
        case round=>
             obtain ⟨i,hi,hx,rfl⟩:=hrel;have wR:=ae hx;have k4:wr.cell? ⟨B,4,none⟩=some (.slice c.ua c.aj.length c.uc):=ai hx ((HA.out.cell 4).trans rfl);clear hx;by_cases hlt:i<c.aj.length
             ·have b1:(i:Int)<(c.aj.length:Int):=by omega
              have b0:(0:Int)≤(i:Int):=by omega
              have hr:=(dB.out.ext (HX.out.trans wR.out)).aj;have hle:=hr.le;have di:=hr.cap
              rw [List.length_map]at hle;obtain ⟨b,o,ha,hcell⟩:=hr.cell i (by rw [List.length_map];exact hlt);simp only [List.getElem_map]at hcell;have e4:wr.cell? ⟨b,o+i*22+4,none⟩=some (.slice c.aj[i].sa c.aj[i].aI.length c.aj[i].sc):=hcell 4 (by show 4<22;decide);have N2:wr.cell? ⟨b,o+i*22+18,none⟩=some (.slice c.aj[i].aa c.aj[i].away.length c.aj[i].ac):=hcell 18 (by show 18<22;decide);rw [ha]at k4;have q5:IntKind.i64.wrap ((i:Int)+1)=((i+1:Nat):Int):=by rw [IntKind.wrap_i64];have:=HU.out;omega
              have q6:wrap64 ((i:Int)+1)=((i+1:Nat):Int):=by unfold wrap64;have:=HU.out;omega
              have mG:=ae hlt;clear hr hcell ha hi;generalize c.aj[i]=x at*;clear hlt;by_cases h1:30<x.away.length
              ·have g1:(30:Int)<(x.away.length:Int):=by omega
               go_wp2_with fail
               go_ret;exact ⟨false,rfl,(fun e=>by cases e),HX.out.trans wR.out⟩
              ·have g1:decide ((30:Int)<(x.away.length:Int))=false:=by rw [decide_eq_false_iff_not];omega
               clear h1;by_cases h2:20<x.aI.length
               ·have g2:(20:Int)<(x.aI.length:Int):=by omega
                go_wp2_with fail
                go_ret;exact ⟨false,rfl,(fun e=>by cases e),HX.out.trans wR.out⟩
               ·have g2:decide ((20:Int)<(x.aI.length:Int))=false:=by rw [decide_eq_false_iff_not];omega
                clear h2;go_wp2_with fail
                exact ⟨⟨i+1,by(have:=mG.out;omega),wR.out,by first|rfl|exact congrArg (Value.int IntKind.i64) q6⟩,by first|(show c.aj.length-(((i+1:Nat):Int)).toNat<c.aj.length-((i:Int)).toNat;have:=mG.out;omega)|exact Nat.lt_of_le_of_lt (Nat.le_of_eq (congrArg (fun z=>c.aj.length-Int.toNat z) q6)) (by show c.aj.length-(((i+1:Nat):Int)).toNat<c.aj.length-((i:Int)).toNat;have:=mG.out;omega)⟩
             ·obtain rfl:i=c.aj.length:=by omega
              go_wp2_with fail
              go_ret;exact ⟨true,rfl,fun _=>HT.out,HX.out.trans wR.out⟩
def mf:cq:=⟨0,0,none,0,[],0,0,0⟩
set_option maxHeartbeats 2000000 in
set_option maxRecDepth 100000 in
theorem B_ (V:World) (c:aq) (a:Option Addr) (cp:Nat) (l:List Int) (x:cq) (zT:Bool) (hc:aT V c) (hl:aA V a cp l) (hI:aA V x.ua x.uc x.aj) (hh:1≤c.hours∧c.hours≤1000) (hu:1≤c.aj.length∧c.aj.length≤1000):
 Calls Tryz.prog 11 #[.agg (C8 c),.slice a l.length cp,.agg #[i64 x.kind,i64 x.hour,.slice x.ua x.aj.length x.uc,i64 x.least,i64 x.unit,i64 x.length],.bool zT] V fun e w'=> ∃y:cq,e= .returned (.agg y.cells.toArray)∧aA w' y.ua y.uc y.aj∧(y=x∨(cQ c y=true∧Fr V.heap.size y.ua))∧Ext V w':=by
 try unfold C8
 have dB:=ae hc;have HL:=ae hl;have HI:=ae hI
 have ER:=ae (fun U (e:Ext V U)=>C0 U c a cp l (hc.ext e) (hl.ext e) hh hu);clear hc hl hI hh hu;go_enter Tryz.func11,Tryz.ntmps11
 go_upto_region 1 with fail
 obtain ⟨W0,hW,x0,Z0,A0,A1,A2⟩:=ik V 32 c.cells 24 x.cells 24 mf.cells;rw [show((V.alloc (.cells (C8 c) 32)).alloc (.cells #[i64 x.kind,i64 x.hour,.slice x.ua x.aj.length x.uc,i64 x.least,i64 x.unit,i64 x.length] 24)).alloc (.cells #[i64 0,i64 0,.slice none 0 0,i64 0,i64 0,i64 0] 24)=W0 from hW.symm];obtain ⟨B,hB⟩: ∃B,B=V.heap.size:=⟨_,rfl⟩;obtain ⟨E,hE⟩: ∃E,E=B+1:=⟨_,rfl⟩;obtain ⟨R,hR⟩: ∃R,R=B+2:=⟨_,rfl⟩;rw [←hB]at A0 A1 A2⊢;rw [←hE]at A1⊢;rw [←hR]at A2;first|rw [←hR]|rw [show E+1=R by omega]
 have xP:Hid (V.heap.size≤R∧E≠R):=by(show _∧_;omega)
 have HA:=ae A0;have HE:=ae A1;have HR:=ae A2;have Gr:=ae A2.lt;have HX:=ae x0;have HV0:=ae x0.size
 clear hW A0 A1 A2 x0 Z0 hB hE hR;obtain ⟨k0,k1,k2,k3,k4,k5,k6,k7⟩:=aq.at HA.out;go_wp2_with fail
 refine (ER.out W0 HX.out).mono ?_;rintro e W1 ⟨ga,gc,xs,rfl,hcs,nQ,mb,hx⟩;replace HX:=ae (HX.out.trans hx);replace HE:=ae (HE.out.ext hx);replace HR:=ae (HR.out.ext hx)
 have nE:=ae hcs;have w_:=ae nQ;have OO:=ae mb
 clear hcs nQ mb hx k0 k1 k2 k3 k4 k5 k6 k7 HA ER;have ZL: ∀j v,x.cells[j]?=some v→W1.cell? ((⟨E,0,none⟩:Addr).add j)=some v:=fun j v hj=>by rw [dP,HE.out.cell j];exact hj
 cases zT with
 |false=>
  go_wp2_with (first|(refine aQ rfl 24 _ rfl ⟨E,0,none⟩ rfl x.cells _ ZL rfl rfl (by kernel_rfl) ?_)|(refine bF rfl 24 _ _ rfl R mf.cells x.cells HR.out rfl rfl (by kernel_rfl) rfl rfl ?_;intro xh jP dO))
  exact bodyPost_ret (v:= .agg x.cells.toArray) (fo 8 _ rfl rfl jP rfl rfl (by kernel_rfl)) rfl ⟨x,rfl,HI.out.ext (dO.ext HX.out xP.out.1),Or.inl rfl,dO.ext HX.out xP.out.1⟩
 |true=>
  by_cases hx0:0<xs.length
  ·have g1:(0:Int)<(xs.length:Int):=by omega
   have hxn:xs.length≤9223372036854775807:=by have:=w_.out;omega
   obtain ⟨b,o,R5,hcell⟩:=nE.out.rows.cell 0 (by rw [List.length_map];exact hx0);obtain ⟨y,hy⟩: ∃y,y=xs[0]:=⟨_,rfl⟩;have ZM:Hid (cQ c y=true∧aA W1 y.ua y.uc y.aj):=by rw [hy];exact ⟨(OO.out _ (List.getElem_mem hx0)).1,nE.out.aj _ (List.getElem_mem hx0)⟩
   have ZN:Hid (Fr W0.heap.size y.ua):=by rw [hy];exact (OO.out _ (List.getElem_mem hx0)).2
   have hYL: ∀j v,y.cells[j]?=some v→W1.cell? ((⟨b,o,none⟩:Addr).add j)=some v:=fun j v hj=>by
    rw [List.getElem_map,←hy]at hcell;obtain ⟨Au,hjv⟩:=List.getElem?_eq_some_iff.1 hj;have h5:=hcell j Au;rw [hjv]at h5;rw [←h5];congr 1
    unfold Addr.add;split<;>simp_all
   rw [R5];clear hy hcell R5 hx0;go_wp2_with (first|(refine aQ rfl 24 _ rfl ⟨b,o,none⟩ rfl y.cells _ hYL rfl rfl (by kernel_rfl) ?_)|(refine bF rfl 24 _ _ rfl R mf.cells y.cells HR.out rfl rfl (by kernel_rfl) rfl rfl ?_;intro xh jP dO))
   exact bodyPost_ret (v:= .agg y.cells.toArray) (fo 8 _ rfl rfl jP rfl rfl (by kernel_rfl)) rfl ⟨y,rfl,ZM.out.2.fS dO (fun p hp=>by have:=ZN.out p hp;have:=Gr.out;omega),Or.inr ⟨ZM.out.1,fun p hp=>by have:=ZN.out p hp;have:=HV0.out;omega⟩,dO.ext HX.out xP.out.1⟩
  ·obtain rfl:xs= []:=List.eq_nil_of_length_eq_zero (by omega)
   clear hx0;rw [show([]:List cq).length=0 from rfl];go_wp2_with (first|(refine aQ rfl 24 _ rfl ⟨E,0,none⟩ rfl x.cells _ ZL rfl rfl (by kernel_rfl) ?_)|(refine bF rfl 24 _ _ rfl R mf.cells x.cells HR.out rfl rfl (by kernel_rfl) rfl rfl ?_;intro xh jP dO))
   exact bodyPost_ret (v:= .agg x.cells.toArray) (fo 8 _ rfl rfl jP rfl rfl (by kernel_rfl)) rfl ⟨x,rfl,HI.out.ext (dO.ext HX.out xP.out.1),Or.inl rfl,dO.ext HX.out xP.out.1⟩
end Go.Proofs.YtkpngkdgphojlaaGreat
