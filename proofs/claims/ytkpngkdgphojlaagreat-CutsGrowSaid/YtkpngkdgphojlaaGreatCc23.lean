/- Texts of the proof. -/
import Derived.Test.YtkpngkdgphojlaaGreatCc22
set_option linter.all false
namespace Go.Proofs.YtkpngkdgphojlaaGreat
open Go.RowKit
theorem CS (N m b:Nat) (hm:0<m) (hb:b<2):
 (m≤2*(N % m)+b→(2*N+b)/m=2*(N/m)+1∧(2*N+b) % m=2*(N % m)+b-m)∧
 (¬m≤2*(N % m)+b→(2*N+b)/m=2*(N/m)∧(2*N+b) % m=2*(N % m)+b):=by
 have h1:=Nat.div_add_mod N m;have h2:=Nat.mod_lt N hm;generalize N/m=q at*;generalize N % m=r at*;constructor
 ·intro h
  have e:2*N+b=(2*r+b-m)+m*(2*q+1):=by
   rw [←h1,Nat.mul_add m,Nat.mul_left_comm m 2];omega
  rw [e,Nat.add_mul_div_left _ _ hm,Nat.add_mul_mod_self_left,Nat.div_eq_of_lt (by omega),Nat.mod_eq_of_lt (by omega)];exact ⟨by omega,rfl⟩
 ·intro h
  have e:2*N+b=(2*r+b)+m*(2*q):=by
   rw [←h1,Nat.mul_left_comm m 2];omega
  rw [e,Nat.add_mul_div_left _ _ hm,Nat.add_mul_mod_self_left,Nat.div_eq_of_lt (by omega),Nat.mod_eq_of_lt (by omega)];exact ⟨by omega,rfl⟩
theorem Ef (n i:Nat):n/2^i=2*(n/2^(i+1))+n/2^i % 2:=by
 rw [Nat.pow_succ,←Nat.div_div_eq_div_mul];omega
theorem J1 {l:List Nat} (hs:Small l) {t:Nat} (ht:t<l.length):limb l t=val l/4294967296^t % 4294967296:=by
 have e:=iL l t ht;have hv:=zA hs (t:=t) (by omega);rw [e,Nat.add_mul_div_left _ _ (Nat.pow_pos (by decide)),Nat.div_eq_of_lt hv,Nat.zero_add,Nat.add_mul_mod_self_left,Nat.mod_eq_of_lt (gm hs t)]
theorem J2 {l:List Nat} (hs:Small l) {i Q:Nat} (hv:val l=Q*2^(i+1)) (hi:i/32<l.length):
 limb l (i/32)|||2^(i % 32)<4294967296∧val (l.set (i/32) (limb l (i/32)|||2^(i % 32)))=Q*2^(i+1)+2^i:=by
 have hk:i % 32<32:=Nat.mod_lt _ (by decide);have Ri:=J1 hs hi
 have e1:Q*2^(i+1)=4294967296^(i/32)*(Q*2^(i % 32+1)):=by
  rw [pow_eq,Nat.mul_left_comm,←Nat.pow_add];congr 2;omega
 have e2:2^i=4294967296^(i/32)*2^(i % 32):=by
  rw [pow_eq,←Nat.pow_add];congr 1;omega
 rw [hv,e1,Nat.mul_div_cancel_left _ (Nat.pow_pos (by decide))]at Ri;have hval:=JZ hi (limb l (i/32)|||2^(i % 32));rw [hv,e1]at hval;rw [e1,e2];generalize i % 32=k at*;generalize i/32=t at*;have e3:(4294967296:Nat)=2^(k+1)*2^(31-k):=by rw [←Nat.pow_add,show k+1+(31-k)=32 from by omega]
 have e4:limb l t=2^(k+1)*(Q % 2^(31-k)):=by
  rw [Ri];conv=>lhs;rw [e3]
  rw [Nat.mul_comm Q,Nat.mul_mod_mul_left]
 have e5:limb l t|||2^k=limb l t+2^k:=by
  rw [e4,Nat.two_pow_add_eq_or_of_lt (Nat.pow_lt_pow_right (by decide) (by omega))]
 have h6:=Nat.mod_lt Q (Nat.two_pow_pos (31-k));have h7:=Nat.mul_le_mul_left (2^(k+1)) (show Q % 2^(31-k)+1≤2^(31-k)from h6);rw [←e3,Nat.mul_add,Nat.mul_one,←e4]at h7;have h8:2^k<2^(k+1):=Nat.pow_lt_pow_right (by decide) (by omega);refine ⟨by rw [e5];omega,?_⟩;rw [e5]at hval⊢;rw [Nat.mul_add (4294967296^t)]at hval;omega
set_option maxHeartbeats 1000000 in
set_option maxRecDepth 100000 in
theorem dV (w:World) (a:Option Addr) (k c n:Nat) (h:Raw w a k c n):
 Calls Tryz.prog 211 #[.slice a k c] w (sK n w):=by
 have hR:=h;obtain ⟨l,rfl,rfl,h⟩:=h;have h1:=h.le;have h2:=h.cap;have h3:=h.short;go_enter Tryz.func211,Tryz.ntmps211
 go_wp2
 go_loop [3] (fun i=> ∃k:Nat,k≤l.length∧val (l.take k)=val l∧i= .int .i64 k) (fun i=>(intOf i).toNat)
 case atStart=>exact ⟨_,Nat.le_refl _,by rw [List.take_length],rfl⟩
 case round=>
  obtain ⟨k,hk,hv,rfl⟩:=hrel;have HV:=ae hv;clear hv
  have fin:len (val l)=k→ ∀v' w',(w'.ownsRow w.heap.size 185 1 v' (0+k) ([]++gg (l.take k)))→Ext w w'→sK (val l) w (.returned v') w':=by
   intro e v' w' ho he;rw [List.nil_append,Nat.zero_add]at ho;obtain ⟨a',c',rfl,_,hL,hF⟩:=uB ho (h.small.take k) (by rw [List.length_take];omega);refine ⟨a',c',by rw [e],?_,hF,he⟩;rw [e];exact ⟨l.take k,by rw [List.length_take];omega,HV.out,hL⟩
  have Nf:=ae fin;clear fin
  by_cases h0:0<k
  ·obtain ⟨b,o,rfl⟩:=h.at (by omega)
   have hc:=h.cellAt (k-1) (by omega);by_cases hz:limb l (k-1)=0
   ·have hz':((limb l (k-1):Nat):Int)=0:=by omega
    rw [hz']at hc;have HZ:=ae hz;clear hz hz'
    go_wp2
    go_round
    case rel=>
     refine ⟨k-1,by omega,?_,by go_num⟩;have:=fL (l:=l) (k:=k-1) (by omega);rw [HZ.out,show k-1+1=k from by omega,HV.out]at this;rw [this];simp
    case measure=>simp [intOf];omega
   ·have hz':(((limb l (k-1):Nat):Int)==0)=false:=by rw [beq_eq_false_iff_ne];omega
    have e:len (val l)=k:=by
     rw [←HV.out];have:=JY (h.small.take k) (by rw [List.length_take];omega) (by rw [List.length_take,Nat.min_eq_left hk,vq (by omega)];exact hz);rw [this,List.length_take,Nat.min_eq_left hk]
    have E:=ae e;clear e
    have HZ:=ae hz;clear hz
    have hT:=(h.take k hk);go_wp2_with (at_builtin;refine iq _ rfl _ _ 115 rfl w.heap.size 185 (.int .u32 0) 1 4 Tryz.underlying115 Tryz.info_u32 rfl (by decide) _ 0 [] rfl ?c1 _ k c (gg (l.take k)) rfl ?c2 ?c3 (sL _) ?c4 ?c5 (by decide) ?c6 ?_;rotate_right;intro v' w' ho he hb hz)
    case c1=>exact kj _ _ _ _ (Nat.le_refl _) (aG.alloc w _ [])
    case c2=>rw [mh,List.length_take];omega
    case c3=>
     intro j u hu;obtain ⟨ad,e,hh⟩:=(hT.ext ((Ext.refl w).alloc (.cells #[] 185))).src (by rw [List.length_take];omega);cases e
     have hh':=hh j u hu;by_cases hj:j=0<;>simpa [Addr.add,hj]using hh'
    case c5=>omega
    go_ret;exact Nf.out E.out _ _ ho.out (he.out w ((Ext.refl _).alloc _) (Nat.le_refl _))
  ·obtain rfl:k=0:=by omega
   have e:len (val l)=0:=by rw [←HV.out];rfl
   have E:=ae e;clear e
   rcases a with _|⟨b,o⟩
   ·have hl0:l.length=0:=by
     rcases Nat.eq_zero_or_pos l.length with e|e
     ·exact e
     ·obtain ⟨b,o,e'⟩:=h.at e;cases e'
    have hc0:=h.KB rfl;subst hc0;go_wp2_with (at_builtin;refine iq _ rfl _ _ 115 rfl w.heap.size 185 (.int .u32 0) 1 4 Tryz.underlying115 Tryz.info_u32 rfl (by decide) _ 0 [] rfl ?d1 _ 0 0 (gg (l.take 0)) rfl ?d2 ?d3 (sL _) ?d4 ?d5 (by decide) ?d6 ?_;rotate_right;intro v' w' ho he hb hz)
    case d1=>exact kj _ _ _ _ (Nat.le_refl _) (aG.alloc w _ [])
    go_ret;exact Nf.out E.out _ _ ho.out (he.out w ((Ext.refl _).alloc _) (Nat.le_refl _));rfl
   ·go_wp2_with (at_builtin;refine iq _ rfl _ _ 115 rfl w.heap.size 185 (.int .u32 0) 1 4 Tryz.underlying115 Tryz.info_u32 rfl (by decide) _ 0 [] rfl ?e1 _ 0 c (gg (l.take 0)) rfl ?e2 ?e3 (sL _) ?e4 ?e5 (by decide) ?e6 ?_;rotate_right;intro v' w' ho he hb hz)
    case e1=>exact kj _ _ _ _ (Nat.le_refl _) (aG.alloc w _ [])
    go_ret;exact Nf.out E.out _ _ ho.out (he.out w ((Ext.refl _).alloc _) (Nat.le_refl _));rfl
theorem iV (w:World) (n:Nat) (hn:n<18446744073709551616):
 Calls Tryz.prog 176 #[.int .u64 (n:Nat)] w (sK n w):=by
 have hr:Raw (w.alloc (Obj.cells #[.int .u32 ((n:Int) % 4294967296),.int .u32 ((n:Int)/4294967296)] 185)) (some ⟨w.heap.size,0,none⟩) 2 2 n:=by
  have ha:=aG.alloc w 185 (gg [n % 4294967296,n/4294967296]);exact ⟨_,rfl,by simp [val];omega,ha.limbs (Small.append (l:= [_]) (m:= [_]) (Small.one (by omega)) (Small.one (by omega))) (by simp)⟩
 go_enter Tryz.func176,Tryz.ntmps176
 go_wp2_with fail
 refine (dV _ _ _ _ _ hr).mono ?_;rintro e w' ⟨a,c,rfl,h1,h2,h3⟩;go_wp2
 go_ret;exact ⟨_,_,rfl,h1,h2.mono (by simp),((Ext.refl _).alloc _).trans h3⟩
set_option maxRecDepth 100000 in
theorem iW (w:World) (a:Option Addr) (k c n:Nat) (h:Raw w a k c n) (hn:n<18446744073709551616):
 Calls Tryz.prog 224 #[.slice a k c] w fun e w'=>e= .returned (.tuple #[.int .u64 (n:Nat),.bool true])∧Ext w w':=by
 have h2:=oC.2 hn;go_enter Tryz.func224,Tryz.ntmps224
 go_wp2_with fail
 refine (dV _ _ _ _ _ h).mono ?_;rintro e w' ⟨a',c',rfl,hR,hF,hX⟩;have hE:=ae hX;clear hX hn
 obtain ⟨l,hl,rfl,hL⟩:=hR;have hs:=hL.small;rw [←hl]at h2⊢;clear hl;rcases l with _|⟨x,_|⟨y,_|⟨z,l⟩⟩⟩
 ·have h:=hL
  go_wp2
  refine wp_loop_rounds 1 ?_;rw [rounds_succ]
  go_wp2
  go_ret2
  exact ⟨rfl,hE.out⟩
 ·have h:=hL
  obtain ⟨b,o,rfl⟩:=h.at (by simp);have hc:=h.cellAt 0 (by simp);have hx:=hs x (by simp);simp [limb]at hc;go_wp2
  refine wp_loop_rounds 2 ?_;rw [rounds_succ]
  go_wp2
  rw [rounds_succ];go_wp2
  go_ret2
  refine ⟨?_,hE.out⟩;simp [Array.getD,val];exact or_zero x (by omega)
 ·have h:=hL
  obtain ⟨b,o,rfl⟩:=h.at (by simp);have hc:=h.cellAt 0 (by simp);have hc1:=h.cellAt 1 (by simp);have hx:=hs x (by simp);have hy:=hs y (by simp);simp [limb]at hc hc1;go_wp2
  refine wp_loop_rounds 3 ?_;rw [rounds_succ]
  go_wp2
  rw [rounds_succ];go_wp2
  rw [rounds_succ];go_wp2
  go_ret2
  refine ⟨?_,hE.out⟩;simp [Array.getD,val];rw [or_zero y (by omega)]
  have e:IntKind.u64.wrap ((y:Int)*4294967296)=(y:Int)*4294967296:=by
   rw [IntKind.wrap_u64];omega
  rw [e,OS y x hy hx];omega
 ·simp at h2
theorem pM (w:World) (a:Option Addr) (k c n:Nat) (h:Raw w a k c n) (hn:18446744073709551616≤n):
 Calls Tryz.prog 224 #[.slice a k c] w fun e w'=>e= .returned (.tuple #[.int .u64 0,.bool false])∧Ext w w':=by
 have h2:2<len n:=by have:= @oC n;omega
 have hl:=h.cut.le;go_enter Tryz.func224,Tryz.ntmps224
 go_wp2_with fail
 refine (dV _ _ _ _ _ h).mono ?_;rintro e w' ⟨a',c',rfl,hR,hF,hX⟩;have hE:=ae hX;clear hX hn
 go_wp2
 go_ret2
 exact ⟨rfl,hE.out⟩
set_option maxHeartbeats 400000 in
theorem ue (w:World) (a b:Option Addr) (k k' c c' n m:Nat) (ha:Raw w a k c n) (hb:Raw w b k' c' m):
 Calls Tryz.prog 235 #[.slice a k c,.slice b k' c'] w fun e w'=>e= .returned (.int .i64 (uz n m))∧Ext w w':=by
 go_enter Tryz.func235,Tryz.ntmps235
 go_wp2_with fail
 refine (dV _ _ _ _ _ ha).mono ?_;rintro e w1 ⟨a1,c1,rfl,Tp,SL,nM⟩;go_wp2_with fail
 refine (dV _ _ _ _ _ (hb.ext nM)).mono ?_;rintro e w2 ⟨b1,d1,rfl,vd,hF2,pV⟩;have ha':=Tp.ext pV;have hb':=vd;have la:=ha'.le;have lb:=hb'.le;have HX:=ae (nM.trans pV);by_cases hne:len n=len m
 ·obtain ⟨l,hl,hv,hA⟩:=ha'
  obtain ⟨l',hl',hv',hB⟩:=hb';have s1:=hA.small;have s2:=hB.small;have J3:(((len n:Nat):Int) !=((len m:Nat):Int))=false:=by simp [hne]
  rw [←hne]at hl' lb J3;have HL:=ae hl;have BG:=ae hl';have HV:=ae hv;have Rj:=ae hv';have HN:=ae hne
  clear hl hl' hv hv' hne;rw [←HN.out];go_wp2
  go_loopw [5] (fun i wr=> ∃j:Nat,j≤len n∧l.drop j=l'.drop j∧i= .int .i64 ((j:Int)-1)∧Quiet w2 wr) (fun i _=>(intOf i+1).toNat)
  case atStart=>exact ⟨len n,Nat.le_refl _,by rw [List.drop_of_length_le (by rw [HL.out];exact Nat.le_refl _),List.drop_of_length_le (by rw [BG.out];exact Nat.le_refl _)],rfl,Quiet.refl _⟩
  case round=>
   obtain ⟨j,hj,hd,rfl,hq⟩:=hrel;have HD:=ae hd;clear hd
   by_cases h0:0<j
   ·obtain ⟨i,rfl⟩: ∃i,j=i+1:=⟨j-1,by omega⟩
    rw [show(((i+1:Nat):Int)-1)=(i:Int)from by omega];obtain ⟨p,o,rfl⟩:=hA.at (by rw [HL.out];omega);obtain ⟨p',o',rfl⟩:=hB.at (by rw [BG.out];omega);have hc:=(hA.ext hq.ext).cellAt i (by rw [HL.out];omega);have hc':=(hB.ext hq.ext).cellAt i (by rw [BG.out];omega);have hx:=gm s1 i;have hy:=gm s2 i;have g1:(i:Int)<(len n:Int):=by omega
    have g2:(0:Int)≤(i:Int):=by omega
    by_cases c1:limb l i<limb l' i
    ·have d1:decide (((limb l i:Nat):Int)<((limb l' i:Nat):Int))=true:=by simp;omega
     go_wp2
     go_quiet (fail)
     go_wp2
     go_ret;refine ⟨jt ?_,HX.out.trans (hq.drewN _).ext⟩;have:=vW s1 (k:=i) (by rw [HL.out];omega) (by rw [BG.out];omega) (by rw [HD.out]) c1;rw [HV.out,Rj.out]at this;unfold uz;rw [if_pos this]
    ·by_cases c2:limb l' i<limb l i
     ·have d1:decide (((limb l i:Nat):Int)<((limb l' i:Nat):Int))=false:=by simp;omega
      have d2:decide (((limb l' i:Nat):Int)<((limb l i:Nat):Int))=true:=by simp;omega
      go_wp2
      go_quiet (fail)
      go_wp2
      go_quiet (fail)
      go_wp2
      go_ret;refine ⟨jt ?_,HX.out.trans ((hq.drewN _).drewN _).ext⟩;have:=vW s2 (k:=i) (by rw [BG.out];omega) (by rw [HL.out];omega) (by rw [HD.out]) c2;rw [HV.out,Rj.out]at this;unfold uz;rw [if_neg (by omega),if_neg (by omega)]
     ·have d1:decide (((limb l i:Nat):Int)<((limb l' i:Nat):Int))=false:=by simp;omega
      have d2:decide (((limb l' i:Nat):Int)<((limb l i:Nat):Int))=false:=by simp;omega
      go_wp2
      go_quiet (fail)
      go_wp2
      go_quiet (fail)
      go_wp2
      go_roundw
      case rel=>
           refine ⟨i,by omega,?_,rfl,hq.drewN _⟩;have e1:limb l i=limb l' i:=by omega
           have e2:i<l.length:=by rw [HL.out];omega
           have e3:i<l'.length:=by rw [BG.out];omega
           rw [List.drop_eq_getElem_cons e2,List.drop_eq_getElem_cons e3,HD.out];simp only [limb,List.getElem?_eq_getElem e2,List.getElem?_eq_getElem e3,Option.getD_some]at e1;rw [e1]
      case measure=>simp [intOf]
   ·obtain rfl:j=0:=by omega
    go_wp2
    go_ret;refine ⟨jt ?_,HX.out.trans hq.ext⟩;have:n=m:=by rw [←HV.out,←Rj.out];have:=HD.out;simp at this;rw [this]
    unfold uz;rw [if_neg (by omega),if_pos this]
 ·have J3:(((len n:Nat):Int) !=((len m:Nat):Int))=true:=by simp;omega
  by_cases hlt:len n<len m
  ·go_wp2
   go_ret;refine ⟨jt ?_,HX.out⟩
   have:n<m:=by
    apply Nat.lt_of_not_le;intro h;have:=eA h;omega
   unfold uz;rw [if_pos this]
  ·go_wp2
   go_ret;refine ⟨jt ?_,HX.out⟩
   have:m<n:=by
    apply Nat.lt_of_not_le;intro h;have:=eA h;omega
   unfold uz;rw [if_neg (by omega),if_neg (by omega)]
set_option maxHeartbeats 400000 in
theorem zD (w:World) (a b:Option Addr) (c c':Nat) (l l':List Nat) (hA:dZ w a c l) (hB:dZ w b c' l'):
 Calls Tryz.prog 171 #[.slice a l.length c,.slice b l'.length c'] w fun e w'=>e= .returned (.bool (decide (l=l')))∧Quiet w w':=by
 have s1:=hA.small;have s2:=hB.small;have h1:=hA.le;have h2:=hA.short;have h3:=hB.short;by_cases hne:l.length=l'.length
 ·have J3:(((l.length:Nat):Int) !=((l'.length:Nat):Int))=false:=by simp [hne]
  have HN:=ae hne;clear hne
  go_enter Tryz.func171,Tryz.ntmps171
  go_wp2
  go_loopw [5] (fun i wr=> ∃j:Nat,j≤l.length∧l.take j=l'.take j∧i= .int .i64 (j:Int)∧Quiet w wr) (fun i _=>l.length-(intOf i).toNat)
  case atStart=>exact ⟨0,Nat.zero_le _,by simp,rfl,Quiet.refl _⟩
  case round=>
   obtain ⟨j,hj,hd,rfl,hq⟩:=hrel;have HD:=ae hd;clear hd
   by_cases h0:j<l.length
   ·obtain ⟨p,o,rfl⟩:=hA.at (by omega)
    obtain ⟨p',o',rfl⟩:=hB.at (by rw [←HN.out];omega);have hc:=(hA.ext hq.ext).cellAt j (by omega);have hc':=(hB.ext hq.ext).cellAt j (by rw [←HN.out];omega);have g1:(j:Int)<(l.length:Int):=by omega
    have g1':(j:Int)<(l'.length:Int):=by rw [←HN.out];omega
    have g2:(0:Int)≤(j:Int):=by omega
    by_cases c1:limb l j=limb l' j
    ·have d1:(((limb l j:Nat):Int) !=((limb l' j:Nat):Int))=false:=by simp;omega
     go_wp2
     go_quiet (fail)
     go_wp2
     go_roundw
     case rel=>
      refine ⟨j+1,by omega,?_,by go_num,hq.drewN _⟩;rw [qC h0,qC (by rw [←HN.out];exact h0),HD.out,c1]
     case measure=>simp [intOf];omega
    ·have d1:(((limb l j:Nat):Int) !=((limb l' j:Nat):Int))=true:=by simp;omega
     go_wp2
     go_quiet (fail)
     go_wp2
     go_ret
     have:decide (l=l')=false:=by
      rw [decide_eq_false_iff_not];intro e;exact c1 (by rw [e])
     exact ⟨by rw [this];rfl,hq.drewN _⟩
   ·obtain rfl:j=l.length:=by omega
    go_wp2
    go_ret
    have:decide (l=l')=true:=by
     rw [decide_eq_true_iff];have:=HD.out;rwa [List.take_length,HN.out,List.take_length]at this
    exact ⟨by rw [this];rfl,hq⟩
 ·have J3:(((l.length:Nat):Int) !=((l'.length:Nat):Int))=true:=by simp;omega
  go_enter Tryz.func171,Tryz.ntmps171
  go_wp2
  go_ret
  have:decide (l=l')=false:=by
   rw [decide_eq_false_iff_not];intro e;exact hne (by rw [e])
  exact ⟨by rw [this];rfl,Quiet.refl _⟩
theorem mS (l:List Nat) (k:Nat):val (l.take (k+1))=val (l.take k)+4294967296^k*limb l k:=by
 by_cases h:k<l.length
 ·exact fL h
 ·rw [List.take_of_length_le (by omega),List.take_of_length_le (by omega),iz (by omega)];simp
theorem vX {L M r:List Nat} {i cy:Nat} (hr:r.length=i) (hv:val r+4294967296^i*cy=val (L.take i)+val (M.take i)):
 val (r++ [(cy+limb L i+limb M i) % 4294967296])+4294967296^(i+1)*((cy+limb L i+limb M i)/4294967296)=val (L.take (i+1))+val (M.take (i+1)):=by
 rw [kX,oB,hr,mS L,mS M,Nat.pow_succ,Nat.mul_assoc];generalize 4294967296^i=p at*
 have e2:p*((cy+limb L i+limb M i) % 4294967296)+p*(4294967296*((cy+limb L i+limb M i)/4294967296))=p*cy+p*limb L i+p*limb M i:=by
  rw [←Nat.mul_add,Nat.mod_add_div,Nat.mul_add,Nat.mul_add]
 omega
theorem uf {w:World} {b K j:Nat} {T:TypeId} {r:List Nat} (h:aG w b T (gg (r++List.replicate (K-j) 0))) (hr:r.length=j) (hj:j<K) (x:Nat):aG (w.setCell ⟨b,j,none⟩ (.int .u32 (x:Nat))) b T (gg ((r++ [x])++List.replicate (K-(j+1)) 0)):=by
 have:=h.set j (.int .u32 (x:Nat));rw [xZ,List.set_append_right _ _ (by rw [hr];exact Nat.le_refl _),hr,Nat.sub_self,show K-j=(K-(j+1))+1 from by omega,List.replicate_succ,List.set_cons_zero]at this;rw [List.append_assoc];exact this
theorem ug {w:World} {b K j:Nat} {T:TypeId} {r:List Nat} (h:aG w b T (gg (r++List.replicate (K-j) 0))) (hr:r.length=j) (hj:j<K):w.cell? ⟨b,j,none⟩=some (.int .u32 0):=by
 rw [h.cell,mi _ _ (by simp [hr];omega)];simp [limb,hr,show 0<K-j from by omega]
theorem carry_zero {l l':List Nat} (s1:Small l) (s2:Small l') {M q x:Nat} (h1:l.length≤M) (h2:l'.length≤M) (hv:x+4294967296^(M+1)*q=val l+val l'):q=0:=by
 have v1:=ki s1;have v2:=ki s2;have p1:=Nat.pow_le_pow_right (show 0<4294967296 by decide) h1;have p2:=Nat.pow_le_pow_right (show 0<4294967296 by decide) h2;rcases Nat.eq_zero_or_pos q with e|e
 ·exact e
 ·rw [Nat.pow_succ]at hv
  generalize 4294967296^M=z at*;have:=Nat.le_mul_of_pos_right (z*4294967296) e;omega
theorem CT {wr:World} {b:Nat} {T:TypeId} {l l' r:List Nat} (s1:Small l) (s2:Small l') {M q:Nat} (h1:l.length≤M) (h2:l'.length≤M) (hM:M<1000000000) (hr:r.length=M+1) (hs:Small r)
 (hv:val r+4294967296^(M+1)*q=val (l.take (M+1))+val (l'.take (M+1))) (kT:aG wr b T (gg (r++List.replicate (M+1-(M+1)) 0))):Raw wr (some ⟨b,0,none⟩) (M+1) (M+1) (val l+val l'):=by
 rw [List.take_of_length_le (by omega),List.take_of_length_le (by omega)]at hv;rw [carry_zero s1 s2 h1 h2 hv,Nat.mul_zero,Nat.add_zero]at hv;rw [Nat.sub_self,List.replicate_zero,List.append_nil]at kT;have h4:=kT.limbs hs (by rw [hr];omega);rw [hr]at h4;exact ⟨r,hr,hv,h4⟩
set_option maxHeartbeats 1000000 in
set_option maxRecDepth 100000 in
theorem oD (w:World) (a b:Option Addr) (k k' c c' n m:Nat) (ha:Raw w a k c n) (hb:Raw w b k' c' m) (hk:k<1000000000) (ee:k'<1000000000):
 Calls Tryz.prog 226 #[.slice a k c,.slice b k' c'] w (sK (n+m) w):=by
 obtain ⟨l,rfl,rfl,hA⟩:=ha;obtain ⟨l',rfl,rfl,hB⟩:=hb;have s1:=hA.small;have s2:=hB.small;by_cases hlt:l.length<l'.length
 ·go_enter Tryz.func226,Tryz.ntmps226
  go_wp2_with (at_make;refine dG _ rfl _ _ 115 rfl 185 (.int .u32 0) 4 Tryz.underlying115 Tryz.info_u32 rfl _ _ (l'.length+1) rfl rfl (by go_num) (by go_num) (by omega) (by omega) ?_;intro w1 eE hx1 hz1)
  go_loopw [6,7] (fun cy i wr=> ∃(j q:Nat) (r:List Nat),j≤l'.length+1∧Hid (r.length=j)∧Small r∧q≤1∧Hid (val r+4294967296^j*q=val (l.take j)+val (l'.take j))∧Hid (aG wr w.heap.size 185 (gg (r++List.replicate (l'.length+1-j) 0)))∧Ext w wr∧cy= .int .u64 q∧i= .int .i64 j) (fun _ i _=>l'.length+1-(intOf i).toNat)
  case atStart=>exact ⟨0,0,[],Nat.zero_le _,rfl,Small.nil,Nat.zero_le _,rfl,by have:=eE.out;rw [ij]at this;exact this,hx1,rfl,rfl⟩
  case round=>
   obtain ⟨j,q,r,hj,hr,hs,hq,hval,kT,je,rfl,rfl⟩:=hrel;by_cases h0:j<l'.length+1
   ·have hst:=ug kT.out hr.out h0
    have OE:=kT.out.frozen j;have HN:=ae (fun x=>uf kT.out hr.out h0 x);have eM:=ae (vX (L:=l) (M:=l') (cy:=q) (i:=j) hr.out hval.out);have hx:=gm s1 j;have hy:=gm s2 j;by_cases h1:j<l.length
    ·by_cases h2:j<l'.length
     ·obtain ⟨p,o,rfl⟩:=hA.at (by omega)
      have hc:=(hA.ext je).cellAt j (by omega);obtain ⟨p',o',rfl⟩:=hB.at (by omega);have hc':=(hB.ext je).cellAt j (by omega);go_wp2
      go_roundw
      case rel=>
       have eM:=eM.out;refine ⟨j+1,(q+limb l j+limb l' j)/4294967296,r++ [(q+limb l j+limb l' j) % 4294967296],by omega,(show _=_ by simp [hr.out]),hs.append (Small.one (Nat.mod_lt _ (by decide))),by omega,eM,HN.out _,je.setCell (Nat.le_refl _) _,?_,?_⟩<;>go_num
      case measure=>simp [intOf];omega
     ·exfalso;omega
    ·by_cases h2:j<l'.length
     ·have e1:=ae (iz (l:=l) (i:=j) (by omega))
      obtain ⟨p',o',rfl⟩:=hB.at (by omega);have hc':=(hB.ext je).cellAt j (by omega);go_wp2
      go_roundw
      case rel=>
       have eM:=eM.out;rw [e1.out,Nat.add_zero]at eM;refine ⟨j+1,(q+limb l' j)/4294967296,r++ [(q+limb l' j) % 4294967296],by omega,(show _=_ by simp [hr.out]),hs.append (Small.one (Nat.mod_lt _ (by decide))),by omega,eM,HN.out _,je.setCell (Nat.le_refl _) _,?_,?_⟩<;>go_num
      case measure=>simp [intOf];omega
     ·have e1:=ae (iz (l:=l) (i:=j) (by omega))
      have e2:=ae (iz (l:=l') (i:=j) (by omega));go_wp2
      go_roundw
      case rel=>
       have eM:=eM.out;rw [e1.out,Nat.add_zero]at eM;rw [e2.out,Nat.add_zero]at eM;rw [Nat.mod_eq_of_lt (show q<4294967296 by omega)]at eM;refine ⟨j+1,q/4294967296,r++ [q],by omega,(show _=_ by simp [hr.out]),hs.append (Small.one (by omega)),by omega,eM,HN.out _,je.setCell (Nat.le_refl _) _,?_,?_⟩<;>go_num
      case measure=>simp [intOf];omega
   ·obtain rfl:j=l'.length+1:=by omega
    have HR:=ae (CT s1 s2 (M:=l'.length) (by omega) (by omega) (by omega) hr.out hs hval.out kT.out);clear hval;go_wp2_with fail
    refine (dV _ _ _ _ _ HR.out).mono ?_;rintro e w' ⟨a',c',rfl,hR,hF,hX⟩;go_wp2
    go_ret;exact ⟨_,_,rfl,hR,hF.mono je.size,je.trans hX⟩
 ·go_enter Tryz.func226,Tryz.ntmps226
  go_wp2_with (at_make;refine dG _ rfl _ _ 115 rfl 185 (.int .u32 0) 4 Tryz.underlying115 Tryz.info_u32 rfl _ _ (l.length+1) rfl rfl (by go_num) (by go_num) (by omega) (by omega) ?_;intro w1 eE hx1 hz1)
  go_loopw [6,7] (fun cy i wr=> ∃(j q:Nat) (r:List Nat),j≤l.length+1∧Hid (r.length=j)∧Small r∧q≤1∧Hid (val r+4294967296^j*q=val (l.take j)+val (l'.take j))∧Hid (aG wr w.heap.size 185 (gg (r++List.replicate (l.length+1-j) 0)))∧Ext w wr∧cy= .int .u64 q∧i= .int .i64 j) (fun _ i _=>l.length+1-(intOf i).toNat)
  case atStart=>exact ⟨0,0,[],Nat.zero_le _,rfl,Small.nil,Nat.zero_le _,rfl,by have:=eE.out;rw [ij]at this;exact this,hx1,rfl,rfl⟩
  case round=>
   obtain ⟨j,q,r,hj,hr,hs,hq,hval,kT,je,rfl,rfl⟩:=hrel;by_cases h0:j<l.length+1
   ·have hst:=ug kT.out hr.out h0
    have OE:=kT.out.frozen j;have HN:=ae (fun x=>uf kT.out hr.out h0 x);have eM:=ae (vX (L:=l) (M:=l') (cy:=q) (i:=j) hr.out hval.out);have hx:=gm s1 j;have hy:=gm s2 j;by_cases h1:j<l.length
    ·by_cases h2:j<l'.length
     ·obtain ⟨p,o,rfl⟩:=hA.at (by omega)
      have hc:=(hA.ext je).cellAt j (by omega);obtain ⟨p',o',rfl⟩:=hB.at (by omega);have hc':=(hB.ext je).cellAt j (by omega);go_wp2
      go_roundw
      case rel=>
       have eM:=eM.out;refine ⟨j+1,(q+limb l j+limb l' j)/4294967296,r++ [(q+limb l j+limb l' j) % 4294967296],by omega,(show _=_ by simp [hr.out]),hs.append (Small.one (Nat.mod_lt _ (by decide))),by omega,eM,HN.out _,je.setCell (Nat.le_refl _) _,?_,?_⟩<;>go_num
      case measure=>simp [intOf];omega
     ·have e2:=ae (iz (l:=l') (i:=j) (by omega))
      obtain ⟨p,o,rfl⟩:=hA.at (by omega);have hc:=(hA.ext je).cellAt j (by omega);go_wp2
      go_roundw
      case rel=>
       have eM:=eM.out;rw [e2.out,Nat.add_zero]at eM;refine ⟨j+1,(q+limb l j)/4294967296,r++ [(q+limb l j) % 4294967296],by omega,(show _=_ by simp [hr.out]),hs.append (Small.one (Nat.mod_lt _ (by decide))),by omega,eM,HN.out _,je.setCell (Nat.le_refl _) _,?_,?_⟩<;>go_num
      case measure=>simp [intOf];omega
    ·by_cases h2:j<l'.length
     ·exfalso;omega
     ·have e1:=ae (iz (l:=l) (i:=j) (by omega))
      have e2:=ae (iz (l:=l') (i:=j) (by omega));go_wp2
      go_roundw
      case rel=>
       have eM:=eM.out;rw [e1.out,Nat.add_zero]at eM;rw [e2.out,Nat.add_zero]at eM;rw [Nat.mod_eq_of_lt (show q<4294967296 by omega)]at eM;refine ⟨j+1,q/4294967296,r++ [q],by omega,(show _=_ by simp [hr.out]),hs.append (Small.one (by omega)),by omega,eM,HN.out _,je.setCell (Nat.le_refl _) _,?_,?_⟩<;>go_num
      case measure=>simp [intOf];omega
   ·obtain rfl:j=l.length+1:=by omega
    have HR:=ae (CT s1 s2 (M:=l.length) (by omega) (by omega) (by omega) hr.out hs hval.out kT.out);clear hval;go_wp2_with fail
    refine (dV _ _ _ _ _ HR.out).mono ?_;rintro e w' ⟨a',c',rfl,hR,hF,hX⟩;go_wp2
    go_ret;exact ⟨_,_,rfl,hR,hF.mono je.size,je.trans hX⟩
theorem J4 {wr:World} {b:Nat} {T:TypeId} {l l' r:List Nat} {M q n m:Nat} (h1:l.length=M) (h2:l'.length≤M) (hM:M≤1099511627776) (hr:r.length=M) (hs:Small r) (hn:val l=n) (hm:val l'=m) (hle:m≤n)
 (hv:val r+val (l'.take M)=val (l.take M)+4294967296^M*q) (kT:aG wr b T (gg (r++List.replicate (M-M) 0))):Raw wr (some ⟨b,0,none⟩) M M (n-m):=by
 rw [List.take_of_length_le (by omega),List.take_of_length_le (by omega),hn,hm]at hv;have hv2:=ki hs;rw [hr]at hv2
 have q0:q=0:=by
  apply Nat.eq_zero_of_not_pos;intro h
  have:=Nat.le_mul_of_pos_right (4294967296^M) h;omega
 rw [q0,Nat.mul_zero,Nat.add_zero]at hv;rw [Nat.sub_self,List.replicate_zero,List.append_nil]at kT;have h4:=kT.limbs hs (by rw [hr];omega);rw [hr]at h4;exact ⟨r,hr,by omega,h4⟩
set_option maxHeartbeats 400000 in
theorem qG (w:World) (a b:Option Addr) (k k' c c' n m:Nat) (ha:Raw w a k c n) (hb:Raw w b k' c' m) (hlt:n<m):
 Calls Tryz.prog 228 #[.slice a k c,.slice b k' c'] w fun e w'=>e= .returned (.tuple #[.slice none 0 0,.bool false])∧Ext w w':=by
 have Gz:uz n m= -1:=by unfold uz;rw [if_pos hlt]
 go_enter Tryz.func228,Tryz.ntmps228
 go_wp2_with fail
 refine (ue _ _ _ _ _ _ _ _ _ ha hb).mono ?_;rintro e w0 ⟨rfl,Rk⟩;rw [Gz];go_wp2
 go_ret2
 exact ⟨rfl,Rk⟩
set_option maxHeartbeats 1000000 in
set_option maxRecDepth 100000 in
theorem xp (w:World) (a b:Option Addr) (k k' c c' n m:Nat) (ha:Raw w a k c n) (hb:Raw w b k' c' m) (hle:m≤n):
 Calls Tryz.prog 228 #[.slice a k c,.slice b k' c'] w (He (n-m) w):=by
 have xV:=eA hle;have Gz:0≤uz n m:=by unfold uz;rw [if_neg (by omega)];split<;>decide
 go_enter Tryz.func228,Tryz.ntmps228
 go_wp2_with fail
 refine (ue _ _ _ _ _ _ _ _ _ ha hb).mono ?_;rintro e w0 ⟨rfl,Rk⟩;go_wp2_with fail
 refine (dV _ _ _ _ _ (ha.ext Rk)).mono ?_;rintro e w1 ⟨a1,c1,rfl,Tp,SL,nM⟩;go_wp2_with fail
 refine (dV _ _ _ _ _ (hb.ext (Rk.trans nM))).mono ?_;rintro e w2 ⟨b1,d1,rfl,vd,hF2,pV⟩;have la:=Tp.le;have lb:=vd.le;have HX:=ae (Rk.trans (nM.trans pV));obtain ⟨l,hl,hv,hA⟩:=Tp.ext pV;obtain ⟨l',hl',hv',hB⟩:=vd;have s1:=hA.small;have s2:=hB.small;have HL:=ae hl;have BG:=ae hl';have HV:=ae hv;have Rj:=ae hv'
 clear hl hl' hv hv';go_wp2_with (at_make;refine dG _ rfl _ _ 115 rfl 185 (.int .u32 0) 4 Tryz.underlying115 Tryz.info_u32 rfl _ _ (len n) rfl rfl (by go_num) (by go_num) (by omega) (by omega) ?_;intro w3 eE hx1 hz1)
 go_loopw [7,8] (fun cy i wr=> ∃(j q:Nat) (r:List Nat),j≤len n∧Hid (r.length=j)∧Small r∧q≤1∧Hid (val r+val (l'.take j)=val (l.take j)+4294967296^j*q)∧Hid (aG wr w2.heap.size 185 (gg (r++List.replicate (len n-j) 0)))∧Ext w2 wr∧cy= .int .u64 q∧i= .int .i64 j) (fun _ i _=>len n-(intOf i).toNat)
 case atStart=>exact ⟨0,0,[],Nat.zero_le _,rfl,Small.nil,Nat.zero_le _,rfl,by have:=eE.out;rw [ij]at this;exact this,hx1,rfl,rfl⟩
 case round=>
  obtain ⟨j,q,r,hj,hr,hs,hq,hval,kT,je,rfl,rfl⟩:=hrel;by_cases h0:j<len n
  ·obtain ⟨p,o,rfl⟩:=hA.at (by rw [HL.out];omega)
   have hc:=(hA.ext je).cellAt j (by rw [HL.out];omega);have hx:=gm s1 j;have hst:=ug kT.out hr.out h0;have OE:=kT.out.frozen j;have HN:=ae (fun x=>uf kT.out hr.out h0 x);by_cases h1:j<len m
   ·obtain ⟨p',o',rfl⟩:=hB.at (by rw [BG.out];omega)
    have hc':=(hB.ext je).cellAt j (by rw [BG.out];omega);have hy:=gm s2 j;by_cases h2:limb l j<q+limb l' j
    ·go_wp2
     go_roundw
     case rel=>
      have nO:=pJ (L:=l) (M:=l') (q:=q) (q':=1) (z:=limb l j+4294967296-(q+limb l' j)) (i:=j) (by rw [HL.out];omega) hr.out hval.out (by rw [BG.out];omega) rfl rfl (by omega);refine ⟨j+1,1,r++ [_],by omega,(show _=_ by simp [hr.out]),hs.append (Small.one ?_),by omega,nO,?_,je.setCell (Nat.le_refl _) _,rfl,by go_num⟩
      ·omega
      ·have:=HN.out (limb l j+4294967296-(q+limb l' j))
       rw [show((limb l j+4294967296-(q+limb l' j):Nat):Int)=((limb l j:Nat):Int)+4294967296-((q:Nat)+(limb l' j:Nat):Int)from by omega]at this;exact this
     case measure=>simp [intOf];omega
    ·go_wp2
     go_roundw
     case rel=>
      have nO:=pJ (L:=l) (M:=l') (q:=q) (q':=0) (z:=limb l j-(q+limb l' j)) (i:=j) (by rw [HL.out];omega) hr.out hval.out (by rw [BG.out];omega) rfl rfl (by omega);refine ⟨j+1,0,r++ [_],by omega,(show _=_ by simp [hr.out]),hs.append (Small.one ?_),by omega,nO,?_,je.setCell (Nat.le_refl _) _,rfl,by go_num⟩
      ·omega
      ·have:=HN.out (limb l j-(q+limb l' j))
       rw [show((limb l j-(q+limb l' j):Nat):Int)=((limb l j:Nat):Int)-((q:Nat)+(limb l' j:Nat):Int)from by omega]at this;exact this
     case measure=>simp [intOf];omega
   ·have e1:limb l' j=0:=iz (by rw [BG.out];omega)
    have EY:=ae e1;clear e1
    by_cases h2:limb l j<q
    ·go_wp2
     go_roundw
     case rel=>
      have nO:=pJ (L:=l) (M:=l') (q:=q) (q':=1) (z:=limb l j+4294967296-(q)) (i:=j) (by rw [HL.out];omega) hr.out hval.out (by rw [BG.out];omega) rfl EY.out (by omega);refine ⟨j+1,1,r++ [_],by omega,(show _=_ by simp [hr.out]),hs.append (Small.one ?_),by omega,nO,?_,je.setCell (Nat.le_refl _) _,rfl,by go_num⟩
      ·omega
      ·have:=HN.out (limb l j+4294967296-(q))
       rw [show((limb l j+4294967296-(q):Nat):Int)=((limb l j:Nat):Int)+4294967296-((q:Nat):Int)from by omega]at this;exact this
     case measure=>simp [intOf];omega
    ·go_wp2
     go_roundw
     case rel=>
      have nO:=pJ (L:=l) (M:=l') (q:=q) (q':=0) (z:=limb l j-(q)) (i:=j) (by rw [HL.out];omega) hr.out hval.out (by rw [BG.out];omega) rfl EY.out (by omega);refine ⟨j+1,0,r++ [_],by omega,(show _=_ by simp [hr.out]),hs.append (Small.one ?_),by omega,nO,?_,je.setCell (Nat.le_refl _) _,rfl,by go_num⟩
      ·omega
      ·have:=HN.out (limb l j-(q))
       rw [show((limb l j-(q):Nat):Int)=((limb l j:Nat):Int)-((q:Nat):Int)from by omega]at this;exact this
     case measure=>simp [intOf];omega
  ·obtain rfl:j=len n:=by omega
   have HR:=ae (J4 HL.out (by rw [BG.out];exact xV) (by omega) hr.out hs HV.out Rj.out hle hval.out kT.out);clear hval;go_wp2_with fail
   refine (dV _ _ _ _ _ HR.out).mono ?_;rintro e w' ⟨a',c',rfl,hR,hF,hX⟩;go_wp2
   go_ret2
   exact ⟨_,_,rfl,hR,hF.mono (Nat.le_trans HX.out.size je.size),HX.out.trans (je.trans hX)⟩
theorem CU {w:World} {b i:Nat} {T:TypeId} {P:List Nat} (h:aG w b T (gg P)) (x:Nat) (v:Int) (hv:v=(x:Int)):aG (w.setCell ⟨b,i,none⟩ (.int .u32 v)) b T (gg (P.set i x)):=by
 subst hv;have:=h.set i (.int .u32 (x:Nat));rwa [xZ]at this
theorem Hh {w:World} {b i:Nat} {T:TypeId} {P:List Nat} (h:aG w b T (gg P)) (hi:i<P.length):w.cell? ⟨b,i,none⟩=some (.int .u32 (limb P i:Nat)):=by
 rw [h.cell,mi _ _ hi]
def fX (n:Nat):Nat:=if n=0 then 0 else n.log2+1
theorem BH:fX 0=0:=rfl
theorem uh {n:Nat} (h:0<n):fX n=fX (n/2)+1:=by
 unfold fX;rw [if_neg (by omega),Nat.log2_def];by_cases h2:2≤n
 ·rw [if_pos h2,if_neg (by omega)]
 ·rw [if_neg h2,if_pos (by omega)]
theorem kU (n:Nat):n<2^fX n:=by
 unfold fX;split
 ·omega
 ·exact Nat.lt_log2_self
theorem mU {n k:Nat} (h:n<2^k):fX n≤k:=by
 unfold fX;split
 ·omega
 ·rename_i h0
  have:=(Nat.log2_lt h0).2 h;omega
theorem zE {x y k:Nat} (hx:x<2^k) (hy:0<y):fX (x+2^k*y)=k+fX y:=by
 induction k generalizing x with
 |zero=>simp at hx;subst hx;simp
 |succ k ih=>
  have hp:0<2^(k+1)*y:=Nat.mul_pos (Nat.two_pow_pos _) hy;rw [uh (by omega)]
  have e:(x+2^(k+1)*y)/2=x/2+2^k*y:=by
   rw [Nat.pow_succ,Nat.mul_comm (2^k) 2,Nat.mul_assoc];omega
  rw [e,ih (by rw [Nat.pow_succ]at hx;omega)];omega
theorem vg {l:List Nat} (hs:Small l) (h0:0<l.length) (ht:limb l (l.length-1)≠0):fX (val l)=32*(l.length-1)+fX (limb l (l.length-1)):=by
 have e:=iL l (l.length-1) (by omega);rw [List.drop_of_length_le (by omega)]at e;rw [e,pow_eq];have hv:=ki (hs.take (l.length-1));rw [List.length_take,Nat.min_eq_left (by omega),pow_eq]at hv;have:val ([]:List Nat)=0:=rfl;rw [this,Nat.mul_zero,Nat.add_zero];exact zE hv (by omega)
set_option maxHeartbeats 400000 in
theorem J5 (w:World) (a:Option Addr) (k c n:Nat) (h:Raw w a k c n):
 Calls Tryz.prog 225 #[.slice a k c] w fun e w'=>e= .returned (.int .i64 (fX n:Nat))∧Ext w w':=by
 go_enter Tryz.func225,Tryz.ntmps225
 go_wp2_with fail
 refine (dV _ _ _ _ _ h).mono ?_;rintro e w1 ⟨a1,c1,rfl,hR,hF,hX⟩;have la:=hR.le;by_cases h0:n=0
 ·subst h0
  have:len 0=0:=rfl;rw [this];go_wp2
  go_ret;exact ⟨rfl,hX⟩
 ·have hp:=lH.2 (Nat.pos_of_ne_zero h0)
  obtain ⟨l,hl,hv,hA⟩:=hR;obtain ⟨p,o,rfl⟩:=hA.at (by omega);have hc:=hA.cellAt (len n-1) (by omega);have hx:=gm hA.small (len n-1);have ht:=zy hA.small (by omega) (by rw [hv,hl]);have hb0:=vg hA.small (by omega) ht;rw [hv,hl]at hb0;rw [hl]at ht;have HB:=ae hb0;have Oz:fX n≤32*len n:=mU (by rw [←pow_eq];exact kY n);clear hb0;have HL:=ae hl;have HV:=ae hv
  clear hl hv;have he:(((len n:Nat):Int)==0)=false:=by rw [beq_eq_false_iff_ne];omega
  go_wp2
  go_loop [3,4] (fun i v=> ∃(t x:Nat),t≤32*1099511627776∧x<4294967296∧Hid (fX n=t+fX x)∧i= .int .i64 t∧v= .int .u32 x) (fun _ v=>(intOf v).toNat)
  case atStart=>exact ⟨32*(len n-1),limb l (len n-1),by omega,hx,HB,by go_num,rfl⟩
  case round=>
   obtain ⟨t,x,Rl,nQ,hb,rfl,rfl⟩:=hrel;by_cases hx0:0<x
   ·go_wp2
    go_round
    case rel=>
     have hb1:=hb.out;rw [uh hx0]at hb1;exact ⟨t+1,x/2,by omega,by omega,(show _=_ by omega),by go_num,by go_num⟩
    case measure=>simp [intOf];omega
   ·obtain rfl:x=0:=by omega
    go_wp2
    go_ret;have hb1:=hb.out;rw [BH,Nat.add_zero]at hb1;exact ⟨by rw [hb1];rfl,hX⟩
theorem zF (x:Nat) (hx:x<4294967296):bits BinOp.and IntKind.u32 (x:Int) 1=((x % 2:Nat):Int):=by
 have:=u32_and_nat x 1 hx (by decide);rw [Nat.and_one_is_mod]at this;exact this
theorem zG {l:List Nat} (hs:Small l) (i:Nat):val l/2^i % 2=limb l (i/32)/2^(i % 32) % 2:=by
 by_cases hlt:i/32<l.length
 ·have e:=iL l (i/32) hlt
  have hv:=ki (hs.take (i/32));rw [List.length_take,Nat.min_eq_left (by omega),pow_eq]at hv;rw [pow_eq]at e
  have e1:val l/2^(32*(i/32))=limb l (i/32)+4294967296*val (l.drop (i/32+1)):=by
   rw [e,Nat.add_mul_div_left _ _ (Nat.two_pow_pos _),Nat.div_eq_of_lt hv,Nat.zero_add]
  have e2:2^i=2^(32*(i/32))*2^(i % 32):=by rw [←Nat.pow_add];congr 1;omega
  rw [e2,←Nat.div_div_eq_div_mul,e1];have hr:i % 32<32:=Nat.mod_lt _ (by decide);generalize i % 32=r at*
  have e3:4294967296=2^r*(2^(31-r)*2):=by
   rw [←Nat.pow_succ,←Nat.pow_add,show r+(31-r).succ=32 from by omega]
  rw [e3,Nat.mul_assoc,Nat.add_mul_div_left _ _ (Nat.two_pow_pos _),Nat.mul_comm (2^(31-r)) 2,Nat.mul_assoc,Nat.add_mul_mod_self_left]
 ·rw [iz (by omega),Nat.zero_div,Nat.div_eq_of_lt]
  have hv:=ki hs;rw [pow_eq]at hv;exact Nat.lt_of_lt_of_le hv (Nat.pow_le_pow_right (by decide) (by omega))
set_option maxHeartbeats 400000 in
theorem xq (w:World) (a:Option Addr) (k c n i:Nat) (h:Raw w a k c n) (hi:i<1000000000000):
 Calls Tryz.prog 227 #[.slice a k c,.int .i64 (i:Nat)] w fun e w'=>e= .returned (.int .u32 ((n/2^i % 2:Nat)))∧w'=w:=by
 obtain ⟨l,rfl,rfl,hA⟩:=h;have h1:=hA.le;have h2:=hA.short;by_cases hlt:i/32<l.length
 ·obtain ⟨p,o,rfl⟩:=hA.at (by omega)
  have hc:=hA.cellAt (i/32) hlt;have hx:=gm hA.small (i/32);have HB:=ae (zG hA.small i);have hq:limb l (i/32)/2^(i % 32)<4294967296:=Nat.lt_of_le_of_lt (Nat.div_le_self _ _) hx;have HQ:=ae hq;clear hq
  go_enter Tryz.func227,Tryz.ntmps227
  go_wp2
  go_ret;refine ⟨?_,rfl⟩;have e:=zF _ HQ.out;rw [HB.out];refine jt ?_;rw [←e];simp
 ·have HB:=ae (zG hA.small i)
  have HZ:=ae (iz (l:=l) (i:=i/32) (by omega));go_enter Tryz.func227,Tryz.ntmps227
  go_wp2
  go_ret;refine ⟨?_,rfl⟩;rw [HB.out,HZ.out,Nat.zero_div];rfl
set_option maxHeartbeats 1000000 in
set_option maxRecDepth 100000 in
theorem rV (w:World) (a b:Option Addr) (k k' c c' n m:Nat) (ha:Raw w a k c n) (hb:Raw w b k' c' m) (hm:0<m) (Rm:n<18446744073709551616) (Rn:m<18446744073709551616):
 Calls Tryz.prog 207 #[.slice a k c,.slice b k' c'] w (qD (n/m) (n % m) w):=by
 have pm:=lH.2 hm;have Tq:(((len m:Nat):Int)==0)=false:=by rw [beq_eq_false_iff_ne];omega
 go_enter Tryz.func207,Tryz.ntmps207
 go_wp2_with fail
 refine (dV _ _ _ _ _ hb).mono ?_;rintro e w1 ⟨a1,c1,rfl,r1,f1,x1⟩;go_wp2_with fail
 refine (iW _ _ _ _ _ (ha.ext x1) Rm).mono ?_;rintro e w2 ⟨rfl,x2⟩;go_wp2_with fail
 refine (iW _ _ _ _ _ (r1.ext x2) Rn).mono ?_;rintro e w3 ⟨rfl,x3⟩;have hx:=(x1.trans x2).trans x3;have hq:n/m≤n:=Nat.div_le_self _ _;have hr:n % m<m:=Nat.mod_lt _ hm;have T_:((m:Nat):Int)≠0:=by omega
 have hmb:(((m:Nat):Int)==0)=false:=by rw [beq_eq_false_iff_ne];omega
 have h1m:(1:Int)≤(m:Int):=by omega
 have hqb:n/m<18446744073709551616:=Nat.lt_of_le_of_lt hq Rm;have xR:n % m<18446744073709551616:=Nat.lt_trans hr Rn
 have e1:IntKind.u64.wrap ((n:Int)/(m:Int))=((n/m:Nat):Int):=by
  rw [IntKind.wrap_u64,←Int.natCast_ediv];generalize n/m=z at*;omega
 have e2:(n:Int).tmod (m:Int)=((n % m:Nat):Int):=by
  rw [Int.tmod_eq_emod_of_nonneg (by omega),Int.natCast_emod]
 generalize YU:n/m=qq at*;generalize Jy:n % m=rr at*;have HQ:=ae YU;have HR:=ae Jy;clear YU Jy
 have zH:True:=trivial;go_wp2_with fail
 go_region_with (first
  |(go_at_call 176;have _t:=zH;refine (iV _ _ (by assumption)).mono ?_;rintro e w4 ⟨a4,c4,rfl,hr4,OG,fN⟩;clear zH _t)
  |(go_at_call 176;refine (iV _ _ (by assumption)).mono ?_;rintro e w5 ⟨a5,c5,rfl,VJ,YV,dA⟩))
 all_goals go_wp2
 all_goals go_ret3
 all_goals exact ⟨a4,c4,a5,c5,rfl,hr4.ext dA,OG.mono hx.size,VJ,YV.mono (Nat.le_trans hx.size fN.size),(hx.drew.trans fN).trans dA⟩
theorem BI (x i:Nat) (hx:x<4294967296) (hi:i<32):bits BinOp.or IntKind.u32 (x:Int) (2^i % 4294967296)=((x|||2^i:Nat):Int):=by
 have hp:2^i<4294967296:=Nat.pow_lt_pow_right (a:=2) (by decide) hi;have h:=u32_or_nat x (2^i) hx hp
 have e:((2:Int)^i % 4294967296)=((2^i:Nat):Int):=by
  rw [show((2:Int)^i)=((2^i:Nat):Int)from by rw [Int.natCast_pow];rfl];generalize 2^i=z at*;omega
 rw [e];exact h
theorem Tr (q p:Nat):q*(p*2)=2*q*p:=by rw [Nat.mul_comm p 2,←Nat.mul_assoc,Nat.mul_comm q 2]
theorem J6 {z m:Nat} (h:z<m):len (z+z)≤len m+1:=by
 rw [eH,Nat.pow_succ];have h8:=kY m;generalize 4294967296^len m=P at h8⊢;omega
theorem mV (w:World):Raw (w.alloc (Obj.cells #[.int .u32 1] 185)) (some ⟨w.heap.size,0,none⟩) 1 1 1:=by
 have ha:=aG.alloc w 185 (gg [1]);exact ⟨[1],rfl,rfl,ha.limbs (Small.one (by decide)) (by simp)⟩
def Hi (n m k qb:Nat) (wq w2:World) (s5 Iz:Value) (wr:World):Prop:=
 ∃(j:Nat) (a5:Option Addr) (c5:Nat) (Q:List Nat),j≤fX n∧Raw wr a5 (len (n/2^j % m)) c5 (n/2^j % m)∧Fr wq.heap.size a5∧Q.length=k∧Small Q∧val Q=n/2^j/m*2^j∧aG wr qb 185 (gg Q)∧Ext w2 wr∧wq.heap.size≤wr.heap.size∧s5= .slice a5 (len (n/2^j % m)) c5∧Iz= .int .i64 ((j:Int)-1)
set_option maxHeartbeats 4000000 in
set_option maxRecDepth 100000 in
theorem rW (w:World) (a b:Option Addr) (k k' c c' n m:Nat) (ha:Raw w a k c n) (hb:Raw w b k' c' m) (hm:0<m) (hk:k<900000000) (ee:k'<900000000) (VK: ¬(n<18446744073709551616∧m<18446744073709551616)):
 Calls Tryz.prog 207 #[.slice a k c,.slice b k' c'] w (qD (n/m) (n % m) w):=by
 have pm:=lH.2 hm;have xV:=hb.eH;have N7:=ha.eH;have Tq:(((len m:Nat):Int)==0)=false:=by rw [beq_eq_false_iff_ne];omega
 have Oz:fX n≤32*len n:=mU (by rw [←pow_eq];exact kY n);go_enter Tryz.func207,Tryz.ntmps207
 go_wp2_with fail
 refine (dV _ _ _ _ _ hb).mono ?_;rintro e w1 ⟨a1,c1,rfl,r1,f1,x1⟩;go_upto_region 4 with fail
 go_cut [7,8] (fun s7 s8 wx=> ∃(x:Nat) (sm:Bool),s7= .int .u64 x∧s8= .bool sm∧Hid (sm=true→n<18446744073709551616)∧Ext w1 wx)
 case first=>
  by_cases hn:n<18446744073709551616
  ·go_wp2_with fail
   refine (iW _ _ _ _ _ (ha.ext x1) hn).mono ?_;rintro e w2 ⟨rfl,x2⟩;go_wp2_with fail
   go_meet
   exact ⟨n,true,rfl,rfl,(show _→_ from fun _=>hn),x2⟩
  ·go_wp2_with fail
   refine (pM _ _ _ _ _ (ha.ext x1) (by omega)).mono ?_;rintro e w2 ⟨rfl,x2⟩;go_wp2_with fail
   go_meet
   exact ⟨0,false,rfl,rfl,(show _→_ from fun h=>by cases h),x2⟩
 case rest=>
  obtain ⟨x,sm,rfl,rfl,hsm,x2⟩:=hcut;go_upto_region 5 with fail
  go_cut [9,10] (fun s9 KN wx=> ∃(x:Nat) (sm:Bool),s9= .int .u64 x∧KN= .bool sm∧Hid (sm=true→m<18446744073709551616)∧Ext w1 wx)
  case first=>
   by_cases IC:m<18446744073709551616
   ·go_wp2_with fail
    refine (iW _ _ _ _ _ (r1.ext x2) IC).mono ?_;rintro e w2 ⟨rfl,x3⟩;go_wp2_with fail
    go_meet
    exact ⟨m,true,rfl,rfl,(show _→_ from fun _=>IC),x2.trans x3⟩
   ·go_wp2_with fail
    refine (pM _ _ _ _ _ (r1.ext x2) (by omega)).mono ?_;rintro e w2 ⟨rfl,x3⟩;go_wp2_with fail
    go_meet
    exact ⟨0,false,rfl,rfl,(show _→_ from fun h=>by cases h),x2.trans x3⟩
  case rest=>
   obtain ⟨x',ft,rfl,rfl,YW,x3⟩:=hcut;go_upto_region 6 with fail
   go_cut [32] (fun s32 wx=>s32= .bool false∧Ext w1 wx)
   case first=>
    cases sm with
    |true=>
     cases ft with
     |true=>exact absurd ⟨hsm.out rfl,YW.out rfl⟩ VK
     |false=>
      go_wp2_with fail
      go_meet
      exact ⟨rfl,x3⟩
    |false=>
     go_wp2_with fail
     go_meet
     exact ⟨rfl,x3⟩
   case rest=>
    obtain ⟨rfl,x4⟩:=hcut;clear x2 x3 hsm YW;obtain ⟨w4,rfl⟩: ∃w4:World,w4=wc:=⟨_,rfl⟩;have Hj:=ha.ext (x1.trans x4);go_wp2_with (at_make;refine dG _ rfl _ _ 115 rfl 185 (.int .u32 0) 4 Tryz.underlying115 Tryz.info_u32 rfl _ _ k rfl rfl (by go_num) (by go_num) (by omega) (by omega) ?_;intro w5 YX dA QE)
    refine (J5 _ _ _ _ _ (Hj.ext dA)).mono ?_;rintro e w6 ⟨rfl,x6⟩;go_wp2_with fail
    have Ro:val (List.replicate k 0)=n/2^fX n/m*2^fX n:=by
     rw [uW,Nat.div_eq_of_lt (kU n),Nat.zero_div,Nat.zero_mul]
    have Ng:n/2^fX n % m=0:=by rw [Nat.div_eq_of_lt (kU n),Nat.zero_mod]
    have HS:Hid (Hi n m k w4.heap.size w5 w4 (.slice none 0 0) (.int .i64 ((fX n:Int)-1)) w6):=
     ⟨fX n,none,0,List.replicate k 0,Nat.le_refl _,by rw [Ng];exact Raw.nil _,Fr.none _,by simp,Small.replicate _,Ro,aG.ext (by have:=YX.out;rwa [ij]at this) x6,dA.trans x6,x6.size,by rw [Ng];rfl,rfl⟩
    have rB:=r1.ext x4;have Rp:=QE.out;have Vm:=ae Rp;clear Ro Ng YX QE Rp x6;go_loopw [5,11] (fun s5 Iz wr=>Hi n m k w4.heap.size w5 w4 s5 Iz wr) (fun _ Iz _=>(intOf Iz+1).toNat)
    case atStart=>exact HS.out
    case round=>
     obtain ⟨j,a5,c5,Q,hj,rR,fR,Rq,Lb,YY,Rs,qH,Ts,rfl,rfl⟩:=hrel;have Eg:=ae Rq;have Lc:=ae YY;have Nh:=ae Rs
     clear Rq YY Rs;by_cases h0:0<j
     ·obtain ⟨i,rfl⟩: ∃i,j=i+1:=⟨j-1,by omega⟩
      rw [show(((i+1:Nat):Int)-1)=(i:Int)from by omega];have hik:i/32<k:=by omega
      have Co:=ae (J2 Lb Lc.out (by rw [Eg.out];exact hik));have YZ:=ae (BI (limb Q (i/32)) (i % 32) (gm Lb _) (Nat.mod_lt _ (by decide)));have hlx:=gm Lb (i/32);have E5:=Ef n i;have Y_:=Nat.mod_lt (n/2^(i+1)) hm;have hlR:=eA (Nat.le_of_lt Y_)
      have hl2:len (n/2^(i+1) % m+n/2^(i+1) % m)≤len m+1:=by
       exact J6 Y_
      have g0:(0:Int)≤(i:Int):=by omega
      rcases Nat.mod_two_eq_zero_or_one (n/2^i)with hb0|hb1
      ·have E4:=ae hb0
       obtain ⟨IV,E6⟩:=CS (n/2^(i+1)) m 0 hm (by decide);rw [hb0,Nat.add_zero]at E5;simp only [Nat.add_zero]at IV E6;rw [←E5]at IV E6;clear hb0;by_cases nO:m≤2*(n/2^(i+1) % m)
       ·have Ni:=ae (IV nO)
        have GI:=ae E5;clear IV E6 E5;generalize n/2^(i+1) % m=R at*;go_wp2_with fail
        refine (oD _ _ _ _ _ _ _ _ _ rR rR (by omega) (by omega)).mono ?_;rintro e u1 ⟨a6,c6,rfl,r6,f6,x6⟩;have oF:=xq u1 _ _ _ _ i ((Hj.ext qH).ext x6) (by omega);rw [E4.out]at oF;go_wp2_with fail
        refine oF.mono ?_;rintro e u2 ⟨rfl,rfl⟩;clear oF;obtain ⟨u3,a8,c8,r8,xx,Rt,rfl,rfl,rfl⟩: ∃u3 a8 c8,Raw u3 a8 (len (R+R)) c8 (R+R)∧Ext wr u3∧Fr wr.heap.size a8∧u3=u2∧a8=a6∧c8=c6:=⟨u2,a6,c6,r6,x6,f6,rfl,rfl,rfl⟩;go_wp2_with fail
        refine (xp _ _ _ _ _ _ _ _ _ r8 ((rB.ext qH).ext xx) (by omega)).mono ?_;rintro e u4 ⟨a9,c9,rfl,r9,f9,x9⟩;have xw:=xx.trans x9;have Nj:=aG.ext Nh.out xw;have hst:=Hh (i:=i/32) Nj (by rw [Eg.out];omega);have OE:=Nj.frozen (i/32);have VL:=ae (fun v hv=>CU (i:=i/32) Nj (limb Q (i/32)|||2^(i % 32)) v hv);have Ru:=f9.mono xx.size;go_wp2_with fail
        rw [YZ.out]
        go_roundw
        case rel=>
         have Hk:=Ni.out;have Nk:(R+R)-m=n/2^i % m:=by rw [Hk.2];omega
         rw [Nk]at r9⊢;have hz9:=xw.size;refine ⟨i,a9,c9,Q.set (i/32) (limb Q (i/32)|||2^(i % 32)),by omega,?_,Ru.mono Ts,by simp [Eg.out],Lb.set _ _ Co.out.1,?_,VL.out _ rfl,(qH.trans xw).setCell (Nat.le_refl _) _,?_,rfl,rfl⟩
         ·exact r9.setCell _ _ (fun x e=>by have h5:=Ru x e;have h6:=Nh.out.lt;simp only;omega)
         ·rw [Co.out.2,Hk.1]
          generalize n/2^(i+1)/m=q;rw [Nat.add_mul,Nat.pow_succ,Nat.one_mul,Tr]
         ·simp [World.setCell];omega
        case measure=>simp [intOf]<;>omega
       ·have Ni:=ae (E6 nO)
        have GI:=ae E5;clear IV E6 E5;generalize n/2^(i+1) % m=R at*;go_wp2_with fail
        refine (oD _ _ _ _ _ _ _ _ _ rR rR (by omega) (by omega)).mono ?_;rintro e u1 ⟨a6,c6,rfl,r6,f6,x6⟩;have oF:=xq u1 _ _ _ _ i ((Hj.ext qH).ext x6) (by omega);rw [E4.out]at oF;go_wp2_with fail
        refine oF.mono ?_;rintro e u2 ⟨rfl,rfl⟩;clear oF;obtain ⟨u3,a8,c8,r8,xx,Rt,rfl,rfl,rfl⟩: ∃u3 a8 c8,Raw u3 a8 (len (R+R)) c8 (R+R)∧Ext wr u3∧Fr wr.heap.size a8∧u3=u2∧a8=a6∧c8=c6:=⟨u2,a6,c6,r6,x6,f6,rfl,rfl,rfl⟩;go_wp2_with fail
        refine (qG _ _ _ _ _ _ _ _ _ r8 ((rB.ext qH).ext xx) (by omega)).mono ?_;rintro e u4 ⟨rfl,x9⟩;have xw:=xx.trans x9;go_wp2_with fail
        go_roundw
        case rel=>
         have Hk:=Ni.out;have Nk:(R+R)=n/2^i % m:=by rw [Hk.2];omega
         rw [Nk]at r8⊢;refine ⟨i,a8,c8,Q,by omega,r8.ext x9,Rt.mono Ts,Eg.out,Lb,?_,aG.ext Nh.out xw,qH.trans xw,by have:=xw.size;omega,rfl,rfl⟩;rw [Lc.out,Hk.1];generalize n/2^(i+1)/m=q;rw [Nat.pow_succ,Tr]
        case measure=>simp [intOf]<;>omega
      ·have E4:=ae hb1
       obtain ⟨IV,E6⟩:=CS (n/2^(i+1)) m 1 hm (by decide);rw [hb1]at E5;rw [←E5]at IV E6;clear hb1;by_cases nO:m≤2*(n/2^(i+1) % m)+1
       ·have Ni:=ae (IV nO)
        have GI:=ae E5;clear IV E6 E5;generalize n/2^(i+1) % m=R at*;go_wp2_with fail
        refine (oD _ _ _ _ _ _ _ _ _ rR rR (by omega) (by omega)).mono ?_;rintro e u1 ⟨a6,c6,rfl,r6,f6,x6⟩;have oF:=xq u1 _ _ _ _ i ((Hj.ext qH).ext x6) (by omega);rw [E4.out]at oF;go_wp2_with fail
        refine oF.mono ?_;rintro e u2 ⟨rfl,rfl⟩;clear oF;go_wp2_with fail
        have r1:=mV u2;have x7:Ext u2 (u2.alloc (Obj.cells #[.int .u32 1] 185)):=(Ext.refl _).alloc _;refine (oD _ _ _ _ _ _ _ _ _ (r6.ext x7) r1 (by omega) (by omega)).mono ?_;rintro e u3 ⟨a8,c8,rfl,r8,f8,x8⟩;have xx:=(x6.trans x7).trans x8;have Rt:=f8.mono (Nat.le_trans x6.size x7.size);go_wp2_with fail
        refine (xp _ _ _ _ _ _ _ _ _ r8 ((rB.ext qH).ext xx) (by omega)).mono ?_;rintro e u4 ⟨a9,c9,rfl,r9,f9,x9⟩;have xw:=xx.trans x9;have Nj:=aG.ext Nh.out xw;have hst:=Hh (i:=i/32) Nj (by rw [Eg.out];omega);have OE:=Nj.frozen (i/32);have VL:=ae (fun v hv=>CU (i:=i/32) Nj (limb Q (i/32)|||2^(i % 32)) v hv);have Ru:=f9.mono xx.size;go_wp2_with fail
        rw [YZ.out]
        go_roundw
        case rel=>
         have Hk:=Ni.out;have Nk:(R+R+1)-m=n/2^i % m:=by rw [Hk.2];omega
         rw [Nk]at r9⊢;have hz9:=xw.size;refine ⟨i,a9,c9,Q.set (i/32) (limb Q (i/32)|||2^(i % 32)),by omega,?_,Ru.mono Ts,by simp [Eg.out],Lb.set _ _ Co.out.1,?_,VL.out _ rfl,(qH.trans xw).setCell (Nat.le_refl _) _,?_,rfl,rfl⟩
         ·exact r9.setCell _ _ (fun x e=>by have h5:=Ru x e;have h6:=Nh.out.lt;simp only;omega)
         ·rw [Co.out.2,Hk.1]
          generalize n/2^(i+1)/m=q;rw [Nat.add_mul,Nat.pow_succ,Nat.one_mul,Tr]
         ·simp [World.setCell];omega
        case measure=>simp [intOf]<;>omega
       ·have Ni:=ae (E6 nO)
        have GI:=ae E5;clear IV E6 E5;generalize n/2^(i+1) % m=R at*;go_wp2_with fail
        refine (oD _ _ _ _ _ _ _ _ _ rR rR (by omega) (by omega)).mono ?_;rintro e u1 ⟨a6,c6,rfl,r6,f6,x6⟩;have oF:=xq u1 _ _ _ _ i ((Hj.ext qH).ext x6) (by omega);rw [E4.out]at oF;go_wp2_with fail
        refine oF.mono ?_;rintro e u2 ⟨rfl,rfl⟩;clear oF;go_wp2_with fail
        have r1:=mV u2;have x7:Ext u2 (u2.alloc (Obj.cells #[.int .u32 1] 185)):=(Ext.refl _).alloc _;refine (oD _ _ _ _ _ _ _ _ _ (r6.ext x7) r1 (by omega) (by omega)).mono ?_;rintro e u3 ⟨a8,c8,rfl,r8,f8,x8⟩;have xx:=(x6.trans x7).trans x8;have Rt:=f8.mono (Nat.le_trans x6.size x7.size);go_wp2_with fail
        refine (qG _ _ _ _ _ _ _ _ _ r8 ((rB.ext qH).ext xx) (by omega)).mono ?_;rintro e u4 ⟨rfl,x9⟩;have xw:=xx.trans x9;go_wp2_with fail
        go_roundw
        case rel=>
         have Hk:=Ni.out;have Nk:(R+R+1)=n/2^i % m:=by rw [Hk.2];omega
         rw [Nk]at r8⊢;refine ⟨i,a8,c8,Q,by omega,r8.ext x9,Rt.mono Ts,Eg.out,Lb,?_,aG.ext Nh.out xw,qH.trans xw,by have:=xw.size;omega,rfl,rfl⟩;rw [Lc.out,Hk.1];generalize n/2^(i+1)/m=q;rw [Nat.pow_succ,Tr]
        case measure=>simp [intOf]<;>omega
     ·obtain rfl:j=0:=by omega
      have VM:=Lc.out;rw [Nat.pow_zero,Nat.div_one,Nat.mul_one]at VM;rw [Nat.pow_zero,Nat.div_one]at rR⊢
      have Rv:Raw wr (some ⟨w4.heap.size,0,none⟩) k k (n/m):=by
       have h3:=Nh.out.limbs Lb (by rw [Eg.out];omega);rw [Eg.out]at h3;exact ⟨Q,Eg.out,VM,h3⟩
      have RQ:=ae Rv;clear Rv VM;go_wp2_with fail
      refine (dV _ _ _ _ _ RQ.out).mono ?_;rintro e u1 ⟨a6,c6,rfl,r6,f6,x6⟩;go_wp2_with fail
      refine (dV _ _ _ _ _ (rR.ext x6)).mono ?_;rintro e u2 ⟨a7,c7,rfl,r7,f7,x7⟩;go_wp2_with fail
      go_ret3
      have eU:=(x1.trans x4).trans qH;exact ⟨a6,c6,a7,c7,rfl,r6.ext x7,f6.mono eU.size,r7,f7.mono (Nat.le_trans eU.size x6.size),(eU.trans x6).trans x7⟩
theorem vY (w:World) (a b:Option Addr) (k k' c c' n m:Nat) (ha:Raw w a k c n) (hb:Raw w b k' c' m) (hm:0<m) (hk:k<900000000) (ee:k'<900000000):
 Calls Tryz.prog 207 #[.slice a k c,.slice b k' c'] w (qD (n/m) (n % m) w):=by
 by_cases h:n<18446744073709551616∧m<18446744073709551616
 ·exact rV w a b k k' c c' n m ha hb hm h.1 h.2
 ·exact rW w a b k k' c c' n m ha hb hm hk ee h
def Hl (g n m L:Nat) (w:World) (s0 s1:Value) (wr:World):Prop:=
 ∃(A B:Nat) (a b:Option Addr) (c c':Nat),B≤g∧Nat.gcd A B=Nat.gcd n m∧len A≤L∧len B≤L∧Raw wr a (len A) c A∧Raw wr b (len B) c' B∧Fr w.heap.size a∧Fr w.heap.size b∧Ext w wr∧s0= .slice a (len A) c∧s1= .slice b (len B) c'
set_option maxHeartbeats 1000000 in
theorem Nl (w:World) (a b:Option Addr) (k k' c c' n m:Nat) (ha:Raw w a k c n) (hb:Raw w b k' c' m) (hk:len n<900000000) (ee:len m<900000000):
 Calls Tryz.prog 206 #[.slice a k c,.slice b k' c'] w (sK (Nat.gcd n m) w):=by
 go_enter Tryz.func206,Tryz.ntmps206
 go_wp2_with fail
 refine (dV _ _ _ _ _ ha).mono ?_;rintro e w1 ⟨a1,c1,rfl,r1,f1,x1⟩;go_wp2_with fail
 refine (dV _ _ _ _ _ (hb.ext x1)).mono ?_;rintro e w2 ⟨a2,c2,rfl,r2,f2,x2⟩;have HS:Hid (Hl m n m 899999999 w (.slice a1 (len n) c1) (.slice a2 (len m) c2) w2):=⟨n,m,a1,a2,c1,c2,Nat.le_refl _,rfl,by omega,by omega,r1.ext x2,r2,f1,f2.mono x1.size,x1.trans x2,rfl,rfl⟩;clear r1 r2 f1 f2 x1 x2;go_wp2_with fail
 go_loopg [0,1] m (fun g s0 s1 wr=>Hl g n m 899999999 w s0 s1 wr)
 case atStart=>exact HS.out
 case round=>
  obtain ⟨A,B,a,b,c,c',hg,Rw,hlA,hlB,rA,rB,fA,fB,hx,rfl,rfl⟩:=hrel;have Y':=ae Rw;clear Rw;by_cases hB:B=0
  ·subst hB
   rw [xY];go_wp2_with fail
   go_ret;have hg0:=Y'.out;rw [Nat.gcd_zero_right]at hg0;rw [←hg0];exact ⟨_,_,rfl,rA,fA,hx⟩
  ·have pB:=lH.2 (Nat.pos_of_ne_zero hB)
   go_wp2_with fail
   refine (vY _ _ _ _ _ _ _ _ _ rA rB (Nat.pos_of_ne_zero hB) (by omega) (by omega)).mono ?_;rintro e w2 ⟨a2,c2,a3,c3,rfl,r2,f2,r3,f3,x2⟩;have hlt:=Nat.mod_lt A (Nat.pos_of_ne_zero hB);have hl3:=eA (Nat.le_of_lt hlt);go_wp2_with fail
   go_roundg (A % B)
   case measure=>omega
   case rel=>exact ⟨B,A % B,b,a3,c',c3,Nat.le_refl _,by rw [←Y'.out,Nat.gcd_comm B,←Nat.gcd_rec,Nat.gcd_comm],hlB,by omega,rB.ext x2,r3,fB,f3.mono hx.size,hx.trans x2,rfl,rfl⟩
end Go.Proofs.YtkpngkdgphojlaaGreat
