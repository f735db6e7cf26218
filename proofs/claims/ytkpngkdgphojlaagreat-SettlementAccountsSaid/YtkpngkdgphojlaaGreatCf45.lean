/- Texts of the proof. -/
import Derived.Test.YtkpngkdgphojlaaGreatCf44
set_option linter.all false
set_option maxHeartbeats 4000000
set_option maxRecDepth 100000
namespace Go.Proofs.YtkpngkdgphojlaaGreat
open Go.Proofs.Tryz
open Go.RowKit
def lz (x:Nat):Nat:=32-Lib.bitLen x
theorem xA: ∀x:Nat,0<x→x<2^64→1≤Lib.bitLen x∧2^(Lib.bitLen x-1)≤x∧x<2^Lib.bitLen x:=by
 intro x;induction x using Nat.strongRecOn with
 |ind x ih=>
  intro h0 h;rw [Lib.bitLen_half x (by omega) h];by_cases h1:x/2=0
  ·rw [h1,show Lib.bitLen 0=0 from rfl];simp;omega
  ·obtain ⟨a,b,c⟩:=ih (x/2) (by omega) (by omega) (by omega)
   refine ⟨by omega,?_,?_⟩
   ·obtain ⟨t,e⟩: ∃t,Lib.bitLen (x/2)=t+1:=⟨Lib.bitLen (x/2)-1,by omega⟩
    rw [e]at b⊢;rw [show 1+(t+1)-1=t+1 from by omega,Nat.pow_succ];rw [show t+1-1=t from by omega]at b;omega
   ·rw [Nat.add_comm,Nat.pow_succ];omega
theorem yF {x:Nat} (h0:0<x) (h:x<4294967296):lz x<32∧2147483648≤x*2^lz x∧x*2^lz x<4294967296:=by
 obtain ⟨a,b,c⟩:=xA x h0 (by omega);have hl:=Lib.bitLen_le x 32 (by decide) (by omega);unfold lz;refine ⟨by omega,?_,?_⟩
 ·have:=Nat.mul_le_mul_right (2^(32-Lib.bitLen x)) b
  rw [←Nat.pow_add,show Lib.bitLen x-1+(32-Lib.bitLen x)=31 from by omega]at this;omega
 ·have:=Nat.mul_lt_mul_of_pos_right c (Nat.two_pow_pos (32-Lib.bitLen x))
  rw [←Nat.pow_add,show Lib.bitLen x+(32-Lib.bitLen x)=32 from by omega]at this;omega
theorem bits_LeadingZeros32 (x:Nat) (w:World) (h0:0<x) (h1:x<4294967296):
 Calls prog 236 #[.int .u32 (x:Nat)] w fun e w'=>e= .returned (.int .i64 (lz x:Nat))∧w=w':=by
 have l:=Lib.bitLen_le x 32 (by decide) (by omega);have e8:(32-(Lib.bitLen x:Int)+9223372036854775808) % 18446744073709551616-9223372036854775808=((lz x:Nat):Int):=by unfold lz;omega
 have E8:=ae e8;clear e8
 have hL:=bits_Len32 (x:Int) w (by omega) (by omega);rw [Int.toNat_natCast]at hL;go_enter func236,ntmps236
 go_wp2_with (go_at_call 204;refine hL.mono ?_;rintro e w' ⟨rfl,rfl⟩)
 go_ret;exact ⟨cd (by rw [←E8.o];omega),rfl⟩
theorem Ch {k lo top s m:Nat} (hm:m=lo+4294967296^k*top) (DK:lo<4294967296^k) (hs:s<32) (z2:2147483648≤top*2^s) (z3:top*2^s<4294967296):
 m*2^s<4294967296^(k+1)∧2147483648*4294967296^k≤m*2^s:=by
 have e3:(4294967296:Nat)=2^(32-s)*2^s:=by rw [←Nat.pow_add,show 32-s+s=32 from by omega]
 have h1:top<2^(32-s):=by
  apply Nat.lt_of_not_le;intro h
  have:=Nat.mul_le_mul_right (2^s) h;omega
 have h2:=Nat.mul_le_mul_right (2^s) (show top+1≤2^(32-s)from h1);rw [←e3]at h2;generalize hP:4294967296^k=P at*;constructor
 ·have h3:m<P*(top+1):=by rw [Nat.mul_add];omega
  have h4:=Nat.mul_lt_mul_of_pos_right h3 (Nat.two_pow_pos s);have h5:=Nat.mul_le_mul_left P h2;rw [Nat.pow_succ,hP];rw [Nat.mul_assoc]at h4;omega
 ·have h4:=Nat.mul_le_mul_right (2^s) (show P*top≤m by omega)
  have h5:=Nat.mul_le_mul_left P z2;rw [Nat.mul_assoc]at h4;rw [Nat.mul_comm];omega
theorem Ci {L:List Nat} {j K V:Nat} (sL:Small L) (hL:j+K+1≤L.length) (hV:V<4294967296^K) (hlt:val (L.drop (j+1))<V):
 L=L.take j++(L.drop j).take (K+1)++L.drop (j+K+1)∧((L.drop j).take (K+1)).length=K+1∧Small ((L.drop j).take (K+1))∧val ((L.drop j).take (K+1))<V*4294967296∧val (L.drop (j+K+1))=0:=by
 have e1:L.drop j=(L.drop j).take (K+1)++L.drop (j+K+1):=by
  rw [show j+K+1=j+(K+1)from by omega,←List.drop_drop,List.take_append_drop]
 have h1:=eF (l:=L) (k:=j) (by omega);have h2:=bN sL j
 have h3:val (L.drop j)<V*4294967296:=by
  have:=Nat.mul_le_mul_right 4294967296 (show val (L.drop (j+1))+1≤V from hlt);omega
 have h4:V*4294967296≤4294967296^(K+1):=by
  rw [Nat.pow_succ];exact Nat.mul_le_mul_right _ (by omega)
 have h5:=congrArg val e1;have h7:((L.drop j).take (K+1)).length=K+1:=by rw [List.length_take,List.length_drop];omega
 rw [cI,h7]at h5;refine ⟨by rw [List.append_assoc,←e1,List.take_append_drop],h7,(sL.drop j).take _,by omega,?_⟩;apply Nat.eq_zero_of_not_pos;intro h8
 have:=Nat.mul_le_mul_left (4294967296^(K+1)) (show 1≤val (L.drop (j+K+1))from h8);omega
theorem G_ {L r Q:List Nat} {j K V N:Nat} (hL:j+K+1≤L.length) (Qs:L=L.take j++(L.drop j).take (K+1)++L.drop (j+K+1)) (hX:((L.drop j).take (K+1)).length=K+1) (h0:val (L.drop (j+K+1))=0) (hr:r.length=K+1)
 (Pj:val r=val ((L.drop j).take (K+1)) % V) (hQ:j<Q.length) (hv:val (Q.drop (j+1))*V*4294967296^(j+1)+val L=N):
 val ((Q.set j (val ((L.drop j).take (K+1))/V)).drop j)*V*4294967296^j+val (L.take j++r++L.drop (j+K+1))=N∧val ((L.take j++r++L.drop (j+K+1)).drop j)=val r:=by
 have hA:(L.take j).length=j:=by rw [List.length_take];omega
 constructor
 ·rw [rE hQ]
  have e1:=congrArg val Qs;have x1:val ((L.drop j).take (K+1)++L.drop (j+K+1))=val ((L.drop j).take (K+1)):=by rw [cI,h0,Nat.mul_zero,Nat.add_zero]
  have x2:val (r++L.drop (j+K+1))=val r:=by rw [cI,h0,Nat.mul_zero,Nat.add_zero]
  rw [List.append_assoc,cI,hA,x1]at e1;rw [List.append_assoc,cI,hA,x2];have e2:=Nat.div_add_mod' (val ((L.drop j).take (K+1))) V;rw [←Pj]at e2;generalize val ((L.drop j).take (K+1))=x at*;generalize x/V=d at e2⊢;rw [←hv,e1,Nat.pow_succ,←e2];generalize 4294967296^j=p;generalize val (Q.drop (j+1))=q;rw [Nat.add_mul,Nat.add_mul,Nat.mul_add p,Nat.mul_comm p (d*V)]
  have:4294967296*q*V*p=q*V*(p*4294967296):=by
   rw [Nat.mul_assoc 4294967296 q V,Nat.mul_assoc 4294967296,Nat.mul_comm 4294967296,Nat.mul_assoc (q*V)]
  omega
 ·rw [List.append_assoc,List.drop_append_of_le_length (by omega),List.drop_of_length_le (by omega),List.nil_append,cI,h0,Nat.mul_zero,Nat.add_zero]
theorem J7 {q V R n m s:Nat} (h:q*V+R=n*2^s) (hV:V=m*2^s) (hR:R<V) (_hm:0<m):q=n/m∧R=n % m*2^s:=by
 have G5:0<V:=by omega
 have h1:q=n*2^s/V:=by rw [←h,Nat.mul_comm,Nat.mul_add_div G5,Nat.div_eq_of_lt hR,Nat.add_zero]
 have h2:R=n*2^s % V:=by rw [←h,Nat.mul_comm,Nat.mul_add_mod,Nat.mod_eq_of_lt hR]
 refine ⟨?_,?_⟩
 ·rw [h1,hV,Nat.mul_div_mul_right _ _ (Nat.two_pow_pos s)]
 ·rw [h2,hV,Nat.mul_mod_mul_right]
theorem Ek {L:List Nat} {dg K V n s:Nat} (hL:L.length=dg+(K+1)) (hn:n<4294967296^(dg+K)) (hs:s<32) (hv:val L=n*2^s) (hV:2147483648*4294967296^K≤V):val (L.drop dg)<V:=by
 have h1:=jR L dg (by omega);have h2:=Nat.mul_lt_mul_of_pos_right hn (Nat.two_pow_pos s);have h3:2^s≤2^31:=Nat.pow_le_pow_right (by decide) (by omega);rw [Nat.pow_add]at h2;generalize 4294967296^dg=p at*;apply Nat.lt_of_lt_of_le _ hV;apply Nat.lt_of_not_le;intro h
 have h4:=Nat.mul_le_mul_left p h;have h5:=Nat.mul_le_mul_left (p*4294967296^K) h3;have h6:p*(2147483648*4294967296^K)=p*4294967296^K*2^31:=by rw [Nat.mul_comm 2147483648,Nat.mul_assoc]
 omega
theorem J8 {w:World} {b i:Nat} {T:TypeId} {P:List Nat} (h:aQ w b T (cV P)) (x:Nat) (v:Int) (hv:v=(x:Int)):aQ (w.setCell ⟨b,i,none⟩ (.int .u32 v)) b T (cV (P.set i x)):=by
 subst hv;have:=h.set i (.int .u32 (x:Nat));rwa [fo]at this
theorem Touch.ext1 {w0 w w':World} {b:Nat} (h:Ext w0 w) (t:Touch b (b+1) w w') (hb:w0.heap.size≤b):Ext w0 w':=
 ⟨⟨t.os.trans h.below.os,t.tape.trans h.below.tape,t.output.trans h.below.output,by rw [t.size];exact h.below.size,fun k hk=>(t.block k (Or.inl (by omega))).trans (h.below.block k hk)⟩,Nat.le_trans h.drawn t.drawn⟩
theorem aQ.J9 {w w':World} {b b':Nat} {T:TypeId} {vs:List Value} (h:aQ w b' T vs) (t:Touch b (b+1) w w') (hb:b'≠b):aQ w' b' T vs:=by
 unfold aQ;rw [t.block b' (by omega)];exact h
theorem vV (w:World) (a b:Option Addr) (c c' n m:Nat) (ha:Raw w a (len n) c n) (hb:Raw w b (len m) c' m) (h2:2≤len m) (hle:m≤n) (hs:len n<1000000000):
 Calls prog 233 #[.slice a (len n) c,.slice b (len m) c'] w (FD (n/m) (n % m) w):=by
 have wO:=cM hle;have la:=ha.le;have lb:=hb.le;obtain ⟨l,hl,hv,hB⟩:=id hb;obtain ⟨pb,ob,rfl⟩:=hB.at (by omega);have hc:=hB.cellAt (len m-1) (by omega);have hx:=bN hB.small (len m-1);have ht:=lU hB.small (by omega) (by rw [hv,hl]);rw [hl]at ht;obtain ⟨z1,z2,z3⟩:=yF (x:=limb l (len m-1)) (by omega) hx;have Nz:=bits_LeadingZeros32 (limb l (len m-1)) w (by omega) hx
 have VE:m=val (l.take (len m-1))+4294967296^(len m-1)*limb l (len m-1):=by
  have:=bR (l:=l) (k:=len m-1) (by omega);rw [show len m-1+1=l.length from by omega,List.take_length,hv]at this;exact this
 have JQ:=gG hB.small (t:=len m-1) (by omega);have HM:=ae VE;have HL:=ae hl;have HV:=ae hv;have IP:=ae JQ
 clear VE hl hv JQ;generalize hS:lz (limb l (len m-1))=s at z1 z2 z3 Nz;clear hS;go_enter func233,ntmps233
 go_wp2_with fail
 refine Nz.mono ?_;rintro e w' ⟨rfl,rfl⟩;go_wp2_with fail
 refine (tW _ _ _ _ _ _ hb (by omega) z1).mono ?_;rintro e w1 ⟨Y',rfl,hY',VF,Y0,Y_,hx1⟩;go_wp2_with fail
 refine (tW _ _ _ _ _ _ (ha.ext hx1) hs z1).mono ?_;rintro e w2 ⟨X0,rfl,hX0,Za,sX0,Zb,hx2⟩;have VG: ∃dg,len n+1=dg+len m:=⟨len n+1-len m,by omega⟩;obtain ⟨dg,VG⟩:=VG;go_wp2_with (at_make;refine bO _ rfl _ _ 115 rfl 185 (.int .u32 0) 4 underlying115 Tryz.info_u32 rfl _ _ dg rfl rfl (by omega) (by omega) (by omega) (by omega) ?_;intro w3 hw3 hx3 hz3)
 obtain ⟨NA,Zc⟩:=Ch HM.o IP.o z1 z2 z3;rw [show len m-1+1=len m from by omega]at NA;have Zd:val (Y'.take (len m))=m*2^s:=by rw [kR Y0 (by omega) (by rw [VF];exact dZ.2 NA),VF]
 have TL:(Y'.take (len m)).length=len m:=by rw [List.length_take];omega
 have TM:2147483648≤limb (Y'.take (len m)) (len m-1):=by
  have h5:=bR (l:=Y'.take (len m)) (k:=len m-1) (by omega);rw [show len m-1+1=(Y'.take (len m)).length from by omega,List.take_length,Zd]at h5;have h6:=gG (Y0.take (len m)) (t:=len m-1) (by omega);apply Nat.le_of_lt_succ;apply Nat.lt_of_not_le;intro h7
  have h8:=Nat.mul_le_mul_left (4294967296^(len m-1)) (show limb (Y'.take (len m)) (len m-1)+1≤2147483648 by omega);rw [Nat.mul_add,Nat.mul_one,Nat.mul_comm _ 2147483648]at h8;omega
 have hst:=Ek (L:=X0) (dg:=dg) (K:=len m-1) (n:=n) (s:=s) (V:=m*2^s) (by omega) (by rw [show dg+(len m-1)=len n from by omega];exact ie n) z1 Za Zc;have aeU:=Y_.lt;have aeV:=Zb.lt;have a1:aQ w3 w.heap.size 185 (cV Y'):=(Y_.ext hx2).ext hx3;have a2:aQ w3 w1.heap.size 185 (cV X0):=Zb.ext hx3;have a3:aQ w3 w2.heap.size 185 (cV (List.replicate dg 0)):=by have:=hw3.o;rwa [cT]at this
 have hE:Ext w w3:=(hx1.trans hx2).trans hx3;have HYT:=ae Zd;have HYL:=ae TL;have Ze:=ae hY';have HYV:=ae VF;have pZ:=ae hX0;have EW:=ae Za
 have HDG:=ae VG;have A1:=ae a1;have A2:=ae a2;have A3:=ae a3
 have HNT:=ae NA;have HST:=ae hst
 clear Zd TL hY' VF hX0 Za VG a1 a2 a3 NA Zc hst hw3 hz3 Y_ Zb Nz hc;have L6:dg≤1000000000:=by have:=HDG.o;omega
 go_loopw [36] (fun i wr=> ∃(k t:Nat) (Q L:List Nat),Hid (k+t=dg)∧Hid (Q.length=dg)∧Small Q∧Hid (L.length=dg+len m)∧Small L∧Hid (val (Q.drop t)*(m*2^s)*4294967296^t+val L=n*2^s)∧Hid (val (L.drop t)<m*2^s)∧Hid (aQ wr w.heap.size 185 (cV Y'))∧Hid (aQ wr w1.heap.size 185 (cV L))∧Hid (aQ wr w2.heap.size 185 (cV Q))∧Ext w wr∧i= .int .i64 k) (fun i _=>dg-(intOf i).toNat)
 case atStart=>
  refine ⟨0,dg,List.replicate dg 0,X0,(show _=_ by omega),(show _=_ by simp),Small.replicate _,(show _=_ by have:=pZ.o;have:=HDG.o;omega),sX0,?_,HST,A1,A2,A3,hE,rfl⟩;show _=_;rw [List.drop_of_length_le (by simp),EW.o];simp [val]
 case round=>
  obtain ⟨k,t,Q,L,QL,hQ,sQ,hL,sL,hval,hlt,b1,b2,b3,dG,rfl⟩:=hrel;by_cases h0:k<dg
  ·have hj: ∃j,t=j+1:=⟨t-1,by have:=QL.o;omega⟩
   obtain ⟨j,rfl⟩:=hj;have hkj:(dg:Int)-1-(k:Int)=(j:Int):=by have:=QL.o;omega
   have hjb:j<dg:=by have:=QL.o;omega
   obtain ⟨VH,Zf,w3e,Zg,w5e⟩:=Ci (L:=L) (j:=j) (K:=len m) (V:=m*2^s) sL (by rw [hL.o];omega) HNT.o hlt.o;have Zh:(L.take j).length=j:=by rw [List.length_take,hL.o];omega
   have KG:aQ wr w1.heap.size 185 (cV (L.take j++(L.drop j).take (len m+1)++L.drop (j+len m+1))):=by rw [←VH];exact b2.o
   have Pk:=xr wr w1.heap.size w.heap.size (dg+len m-j) (len m+1) (len m) (L.take j) ((L.drop j).take (len m+1)) (L.drop (j+len m+1)) (Y'.take (len m)) (by omega) KG Zf w3e (by omega) (by omega)
    ((b1.o.limbs Y0 (by rw [Ze.o];omega)).take (len m) (by rw [Ze.o];omega)|>fun h=>by rw [Ze.o]at h;exact h) HYL.o h2 TM (by rw [HYT.o];exact Zg)
   rw [Zh,HYT.o]at Pk
   have Zi:val ((L.drop j).take (len m+1))/(m*2^s)<4294967296:=by
    rw [Nat.div_lt_iff_lt_mul (by omega),Nat.mul_comm];exact Zg
   have hVp:0<m*2^s:=by omega
   have hstep:=fun r (hr:r.length=len m+1) Pj=>G_ (L:=L) (r:=r) (Q:=Q) (j:=j) (K:=len m) (V:=m*2^s) (N:=n*2^s) (by rw [hL.o];omega) VH Zf w5e hr Pj (by rw [hQ.o];omega) hval.o;have HS:=ae hstep;have HD:=ae Pk;have IX:=ae VH;have N4:=ae Zh
   clear hstep Pk VH Zf w3e Zg w5e Zh KG;have TN:wr.cell? ⟨w2.heap.size,j,none⟩=some (.int .u32 (limb Q j:Nat)):=by rw [b3.o.cell,et _ _ (by rw [hQ.o];omega)]
   go_wp2_with fail
   rw [show j+len m+1-j=len m+1 from by omega]
   (with_reducible refine HD.o.mono ?_)
   rintro e w5 ⟨r,rfl,hr,sr,Pj,di,xy⟩;have hs5:w5.cell? ⟨w2.heap.size,j,none⟩=some (.int .u32 (limb Q j:Nat)):=by rw [uV xy (p:=⟨w2.heap.size,j,none⟩) (by simp only;omega)];exact TN
   have c1:=b1.o.J9 xy (by omega);have c3:=b3.o.J9 xy (by omega);have vQ:=c3.frozen j;obtain ⟨k1,k2⟩:=HS.o r hr Pj;have K1:=ae k1;have K2:=ae k2;have C1:=ae c1;have HR:=ae hr;have ET:=ae Pj
   have C3:=ae (fun v hv=>J8 (i:=j) c3 (val ((L.drop j).take (len m+1))/(m*2^s)) v hv);have Zj:=ae di;have dY:=Touch.ext1 dG xy hx1.size;clear k1 k2 c1 c3 TN hr Pj di HD HS;go_wp2_with fail
   refine ⟨⟨k+1,j,Q.set j (val ((L.drop j).take (len m+1))/(m*2^s)),L.take j++r++L.drop (j+len m+1),(show _=_ by have:=QL.o;omega),(show _=_ by simp [hQ.o]),sQ.set _ _ Zi,?_,((sL.take j).append sr).append (sL.drop _),K1,?_,(show aQ _ _ _ _ from C1.o.other _ _ (by simp only;omega)),(show aQ _ _ _ _ from Zj.o.other _ _ (by simp only;omega)),C3.o _ rfl,dY.setCell (by simp only;omega) _,by go_num⟩,?_⟩
   ·show _=_
    rw [List.length_append,List.length_append,N4.o,HR.o,List.length_drop,hL.o];omega
   ·show _<_
    rw [K2.o,ET.o];exact Nat.mod_lt _ hVp
   ·simp [intOf];omega
  ·obtain rfl:k=dg:=by have:=QL.o;omega
   obtain rfl:t=0:=by have:=QL.o;omega
   have yo:=hval.o;rw [List.drop_zero,Nat.pow_zero,Nat.mul_one]at yo;have wM:=hlt.o;rw [List.drop_zero]at wM;obtain ⟨q1,q2⟩:=J7 yo rfl wM (gj.1 (by omega));have hLk:val (L.take (len m))=val L:=kR sL (by rw [hL.o];omega) (dZ.2 (Nat.lt_trans wM HNT.o))
   have TP:Raw wr (some ⟨w1.heap.size,0,none⟩) (len m) (k+len m) (n % m*2^s):=by
    have h3:=(b2.o.limbs sL (by rw [hL.o];omega)).take (len m) (by rw [hL.o];omega);rw [hL.o]at h3;exact ⟨L.take (len m),by rw [List.length_take,hL.o];omega,by rw [hLk,q2],h3⟩
   have J_:Raw wr (some ⟨w2.heap.size,0,none⟩) k k (n/m):=by
    have h3:=b3.o.limbs sQ (by rw [hQ.o];omega);rw [hQ.o]at h3;exact ⟨Q,hQ.o,q1,h3⟩
   have RR:=ae TP;have RQ:=ae J_
   clear yo wM q1 q2 hLk TP J_;go_wp2_with fail
   refine (vU _ _ _ _ _ _ RR.o z1).mono ?_;rintro e w6 ⟨a6,c6,rfl,NB,TQ,jB⟩;rw [Nat.mul_div_cancel _ (Nat.two_pow_pos s)]at NB⊢;go_wp2_with fail
   refine (cC _ _ _ _ _ (RQ.o.ext jB)).mono ?_;rintro e w7 ⟨rfl,rfl⟩;go_wp2_with fail
   go_ret2
   exact ⟨_,_,a6,c6,rfl,(RQ.o.ext jB).cut,Fr.some (by omega),NB,TQ.mono dG.size,dG.trans jB⟩
theorem jc (w:World) (a b:Option Addr) (k k' c c' n m:Nat) (ha:Raw w a k c n) (hb:Raw w b k' c' m) (hm:0<m) (hs:len n<1000000000):
 Calls prog 216 #[.slice a k c,.slice b k' c'] w (pj (n/m) (n % m) w):=by
 have ha':=ha.cut;have hb':=hb.cut;have pm:=gj.2 hm;have Nx:(((len m:Nat):Int)==0)=false:=by rw [beq_eq_false_iff_ne];omega
 go_enter func216,ntmps216
 go_wp2_with fail
 refine (cC _ _ _ _ _ ha).mono ?_;rintro e w' ⟨rfl,rfl⟩;go_wp2_with fail
 refine (cC _ _ _ _ _ hb).mono ?_;rintro e w' ⟨rfl,rfl⟩;go_wp2_with fail
 refine (dJ _ _ _ _ _ _ _ _ _ ha' hb').mono ?_;rintro e w0 ⟨rfl,rG⟩;have ha0:=ha'.ext rG.ext;have hb0:=hb'.ext rG.ext;by_cases hlt:n<m
 ·have ur:fc n m= -1:=by unfold fc;rw [if_pos hlt]
  rw [ur];clear ur
  go_wp2_with fail
  refine (oH _ _ _ _ _ ha0).mono ?_;rintro e w1 ⟨a1,c1,rfl,hr1,iX,hx1⟩;go_wp2
  go_ret3
  rw [Nat.div_eq_of_lt hlt,Nat.mod_eq_of_lt hlt];exact ⟨none,0,a1,c1,rfl,Raw.nil _,Fr.none _,hr1,iX.mono rG.ext.size,rG.ext.trans hx1⟩
 ·have ur:0≤fc n m:=by unfold fc;rw [if_neg (by omega)];split<;>decide
  by_cases h2:len n≤2
  ·have nc:len m≤2:=Nat.le_trans (cM (by omega)) h2
   have Ma:=fC.1 h2;have Mb:=fC.1 nc;have hq:n/m≤n:=Nat.div_le_self _ _;have hr:n % m<m:=Nat.mod_lt _ hm;go_wp2_with fail
   refine (oG _ _ _ _ _ ha0 h2).mono ?_;rintro e w' ⟨rfl,rfl⟩;go_wp2_with fail
   refine (oG _ _ _ _ _ hb0 nc).mono ?_;rintro e w' ⟨rfl,rfl⟩;have UT:((m:Nat):Int)≠0:=by omega
   have VI:(((m:Nat):Int)==0)=false:=by rw [beq_eq_false_iff_ne];omega
   have h1m:(1:Int)≤(m:Int):=by omega
   have Zi:n/m<18446744073709551616:=Nat.lt_of_le_of_lt hq Ma;have Zk:n % m<18446744073709551616:=Nat.lt_trans hr Mb
   have e1:IntKind.u64.wrap ((n:Int)/(m:Int))=((n/m:Nat):Int):=by
    rw [IntKind.wrap_u64,←Int.natCast_ediv];generalize n/m=z at*;omega
   have e2:(n:Int).tmod (m:Int)=((n % m:Nat):Int):=by
    rw [Int.tmod_eq_emod_of_nonneg (by omega),Int.natCast_emod]
   generalize QK:n/m=qq at*;generalize KU:n % m=rr at*;have HQ:=ae QK;have HR:=ae KU;clear QK KU
   have fD:True:=trivial;go_wp2_with fail
   go_region_with (first
    |(go_at_call 184;have _t:=fD;refine (cU _ _ (by assumption)).mono ?_;rintro e w1 ⟨a1,c1,rfl,hr1,iX,hx1⟩;clear fD _t)
    |(go_at_call 184;refine (cU _ _ (by assumption)).mono ?_;rintro e w2 ⟨a2,c2,rfl,hr2,hf2,hx2⟩))
   all_goals go_wp2
   all_goals go_ret3
   all_goals exact ⟨a1,c1,a2,c2,rfl,hr1.ext hx2,iX.mono rG.ext.size,hr2,hf2.mono (Nat.le_trans rG.ext.size hx1.size),(rG.ext.drew.trans hx1).trans hx2⟩
  ·have h2': ¬len n≤2:=h2
   by_cases h1:len m=1
   ·have h1':(((len m:Nat):Int)==1)=true:=by simp [h1]
    have Sw:=Ea.1 (Nat.le_of_eq h1);obtain ⟨l,hl,hv,hB⟩:=hb0;obtain ⟨pb,ob,rfl⟩:=hB.at (by omega);have hc:=hB.cellAt 0 (by omega)
    have e0:limb l 0=m:=by
     rw [h1]at hl;match l,hl with
     | [x],_=>simpa [limb,val]using hv
    rw [e0,Nat.add_zero]at hc;have HL:=ae hl;have HV:=ae hv;have H1:=ae h1;have E0:=ae e0;clear hl hv h1 e0
    have h0m:(0:Int)<(len m:Int):=by omega
    go_wp2_with fail
    refine (tB _ _ _ _ _ ha0 hm Sw).mono ?_;rintro e w1 ⟨a1,c1,a2,c2,rfl,hr1,iX,hr2,hf2,hx1⟩;go_wp2
    go_ret3
    exact ⟨a1,c1,a2,c2,rfl,hr1,iX.mono rG.ext.size,hr2,hf2.mono rG.ext.size,rG.ext.trans hx1⟩
   ·have h1':(((len m:Nat):Int)==1)=false:=by rw [beq_eq_false_iff_ne];omega
    go_wp2_with fail
    refine (vV _ _ _ _ _ _ _ ha0 hb0 (by omega) (by omega) hs).mono ?_;rintro e w1 ⟨a1,c1,a2,c2,rfl,hr1,iX,hr2,hf2,hx1⟩;go_wp2
    go_ret3
    exact ⟨a1,c1,a2,c2,rfl,hr1,iX.mono rG.ext.size,hr2,hf2.mono rG.ext.size,rG.ext.trans hx1⟩
structure H_ (X Y:Nat) (s:Int) (x y u1 u2 v1 v2:Nat):Prop where
 sg:s=1∨s= -1
 ex:(x:Int)=s*(u1*X-v1*Y)
 ey:(y:Int)=s*(v2*Y-u2*X)
 Zl:(u1:Int)*v2-u2*v1=s
 le:y≤x
 uv:u2≤v2
 sum:u1+u2≤v1+v2
 pos:1≤v2
theorem H_.start {X Y:Nat} (h:Y≤X):H_ X Y 1 X Y 1 0 0 1:=
 ⟨Or.inl rfl,by simp,by simp,by simp,h,by omega,by omega,by omega⟩
theorem H_.big {X Y:Nat} {s:Int} {x y u1 u2 v1 v2:Nat} (h:H_ X Y s x y u1 u2 v1 v2):v2*x+v1*y=X∧u2*x+u1*y=Y:=by
 obtain ⟨hs,ex,ey,Zl,-,-,-,-⟩:=h;constructor
 ·apply Int.ofNat.inj
  show((v2*x+v1*y:Nat):Int)=(X:Int)
  push_cast
  rw [ex,ey];rcases hs with rfl|rfl<;>grind
 ·apply Int.ofNat.inj
  show((u2*x+u1*y:Nat):Int)=(Y:Int)
  push_cast
  rw [ex,ey];rcases hs with rfl|rfl<;>grind
theorem H_.step {X Y:Nat} {s:Int} {x y u1 u2 v1 v2:Nat} (h:H_ X Y s x y u1 u2 v1 v2) (h0:0<y):H_ X Y (-s) y (x % y) u2 (u1+x/y*u2) v2 (v1+x/y*v2):=by
 have hm:(x:Int)=(x/y:Nat)*y+(x % y:Nat):=by rw [←Int.natCast_mul,←Int.natCast_add,Nat.div_add_mod']
 have hq:1≤x/y:=(Nat.le_div_iff_mul_le h0).2 (by have:=h.le;omega);have hr:=Nat.mod_lt x h0;obtain ⟨hs,ex,ey,Zl,-,uv,sum,pos⟩:=h;generalize x/y=q at*;generalize x % y=r at*;have h1:u2*(q-1)≤v2*(q-1):=Nat.mul_le_mul_right _ uv;obtain ⟨k,rfl⟩: ∃k,q=k+1:=⟨q-1,by omega⟩;simp only [Nat.add_sub_cancel]at h1;rw [Nat.mul_comm u2,Nat.mul_comm v2]at h1;refine ⟨by omega,?_,?_,?_,by omega,?_,?_,?_⟩
 ·rw [ey];grind
 ·have e:(r:Int)=x-((k+1:Nat):Int)*y:=by omega
  rw [e,ex,ey];push_cast;grind
 ·push_cast;grind
 ·rw [Nat.add_mul,Nat.add_mul,Nat.one_mul,Nat.one_mul];omega
 ·rw [Nat.add_mul,Nat.add_mul,Nat.one_mul,Nat.one_mul];omega
 ·rw [Nat.add_mul,Nat.one_mul];omega
structure nG (a b:Nat) (even:Bool) (u0 v0 u1 v1 A B:Nat):Prop where
 fst:if even then A+v0*b=u0*a else A+u0*a=v0*b
 snd:if even then B+u1*a=v1*b else B+v1*b=u1*a
 le:B≤A
 ea:a=v1*A+v0*B
 eb:b=u1*A+u0*B
 pos:1≤v1
theorem uQ {x y E a1:Int} (hx:0≤x) (pF:x≤y) (ha:0≤a1) (hE:a1≤E):0≤x*a1∧x*a1≤y*E:=
 ⟨Int.mul_nonneg hx ha,Int.mul_le_mul pF hE ha (by omega)⟩
theorem H_.o {X Y a b E a1 b1:Nat} {s:Int} {x y u1 u2 v1 v2:Nat} (h:H_ X Y s x y u1 u2 v1 v2) (ha:a=X*E+a1) (hb:b=Y*E+b1) (ha1:a1<E) (hb1:b1<E)
 (c1:v2≤y) (c2:v1+v2≤x-y): ∃A B,nG a b (decide (s=1)) u1 v1 u2 v2 A B:=by
 obtain ⟨hs,ex,ey,Zl,le,uv,sum,pos⟩:=h;have ha':(a:Int)=X*E+a1:=by exact_mod_cast ha
 have hb':(b:Int)=Y*E+b1:=by exact_mod_cast hb
 have p1:=uQ (x:=(u2:Int)) (y:=v2) (E:=E) (a1:=a1) (by omega) (by omega) (by omega) (by omega);have p2:=uQ (x:=(v2:Int)) (y:=v2) (E:=E) (a1:=b1) (by omega) (by omega) (by omega) (by omega);have p3:=uQ (x:=((u1+u2:Nat):Int)) (y:=((v1+v2:Nat):Int)) (E:=E) (a1:=a1) (by omega) (by omega) (by omega) (by omega);have p4:=uQ (x:=((v1+v2:Nat):Int)) (y:=((v1+v2:Nat):Int)) (E:=E) (a1:=b1) (by omega) (by omega) (by omega) (by omega);have q1:(v2:Int)*E≤y*E:=Int.mul_le_mul_of_nonneg_right (by omega) (by omega);have q2:((v1+v2:Nat):Int)*E≤(x-y)*E:=Int.mul_le_mul_of_nonneg_right (by omega) (by omega);have eB:s*(v2*b-u2*a)=y*E+s*(v2*b1-u2*a1):=by rw [ha',hb',ey];grind
 have eD:s*(u1*a-v1*b)-s*(v2*b-u2*a)=(x-y)*E+s*(((u1+u2:Nat):Int)*a1-((v1+v2:Nat):Int)*b1):=by rw [ha',hb',ex,ey];push_cast;grind
 have hB:0≤s*(v2*b-u2*a):=by
  rw [eB];rcases hs with rfl|rfl<;>omega
 have hD:0≤s*(u1*a-v1*b)-s*(v2*b-u2*a):=by
  rw [eD];rcases hs with rfl|rfl<;>omega
 obtain ⟨B,eB'⟩:=Int.eq_ofNat_of_zero_le hB;obtain ⟨A,eA'⟩:=Int.eq_ofNat_of_zero_le (show 0≤s*(u1*a-v1*b) by omega);refine ⟨A,B,?_,?_,by omega,?_,?_,pos⟩
 ·rcases hs with rfl|rfl
  ·rw [if_pos (by decide)]
   apply Int.ofNat.inj;show((A+v1*b:Nat):Int)=((u1*a:Nat):Int)
   push_cast;grind
  ·rw [if_neg (by decide)]
   apply Int.ofNat.inj;show((A+u1*a:Nat):Int)=((v1*b:Nat):Int)
   push_cast;grind
 ·rcases hs with rfl|rfl
  ·rw [if_pos (by decide)]
   apply Int.ofNat.inj;show((B+u2*a:Nat):Int)=((v2*b:Nat):Int)
   push_cast;grind
  ·rw [if_neg (by decide)]
   apply Int.ofNat.inj;show((B+v2*b:Nat):Int)=((u2*a:Nat):Int)
   push_cast;grind
 ·apply Int.ofNat.inj
  show((a:Nat):Int)=((v2*A+v1*B:Nat):Int)
  push_cast
  rw [←eA',←eB'];rcases hs with rfl|rfl<;>grind
 ·apply Int.ofNat.inj
  show((b:Nat):Int)=((u2*A+u1*B:Nat):Int)
  push_cast
  rw [←eA',←eB'];rcases hs with rfl|rfl<;>grind
theorem nG.gcd {a b:Nat} {even:Bool} {u0 v0 u1 v1 A B:Nat} (h:nG a b even u0 v0 u1 v1 A B):Nat.gcd A B=Nat.gcd a b:=by
 obtain ⟨h1,h2,-,ea,eb,-⟩:=h;apply Nat.dvd_antisymm
 ·have d1:=Nat.gcd_dvd_left A B
  have d2:=Nat.gcd_dvd_right A B;apply Nat.dvd_gcd
  ·rw [ea];exact Nat.dvd_add (Nat.dvd_mul_left_of_dvd d1 _) (Nat.dvd_mul_left_of_dvd d2 _)
  ·rw [eb];exact Nat.dvd_add (Nat.dvd_mul_left_of_dvd d1 _) (Nat.dvd_mul_left_of_dvd d2 _)
 ·have d1:=Nat.gcd_dvd_left a b
  have d2:=Nat.gcd_dvd_right a b;cases even
  ·simp only [Bool.false_eq_true,if_false]at h1 h2
   apply Nat.dvd_gcd
   ·exact (Nat.dvd_add_left (Nat.dvd_mul_left_of_dvd d1 u0)).1 (by rw [h1];exact Nat.dvd_mul_left_of_dvd d2 _)
   ·exact (Nat.dvd_add_left (Nat.dvd_mul_left_of_dvd d2 v1)).1 (by rw [h2];exact Nat.dvd_mul_left_of_dvd d1 _)
  ·simp only [if_true]at h1 h2
   apply Nat.dvd_gcd
   ·exact (Nat.dvd_add_left (Nat.dvd_mul_left_of_dvd d2 v0)).1 (by rw [h1];exact Nat.dvd_mul_left_of_dvd d1 _)
   ·exact (Nat.dvd_add_left (Nat.dvd_mul_left_of_dvd d1 u1)).1 (by rw [h2];exact Nat.dvd_mul_left_of_dvd d2 _)
theorem nG.less {a b:Nat} {even:Bool} {u0 v0 u1 v1 A B:Nat} (h:nG a b even u0 v0 u1 v1 A B) (h0:v0≠0) (hb:0<b):A+B<a+b:=by
 have:=h.ea;have h1:A≤v1*A:=Nat.le_mul_of_pos_left _ h.pos;have h2:B≤v0*B:=Nat.le_mul_of_pos_left _ (by omega);omega
theorem uu (w:World) (p:Addr) (a:Option Addr) (k c i:Nat) (l:List Nat) (hp:w.cell? p=some (.slice a k c)) (hl:l.length=k) (h:eG w a c l):
 Calls prog 241 #[.int .i64 (i:Nat),.pointer (some p)] w fun e w'=>e= .returned (.int .u64 (limb l i:Nat))∧w=w':=by
 have h1:=h.le;have h2:=h.short;by_cases hi:i<k
 ·obtain ⟨b,o,rfl⟩:=h.at (by omega)
  have hc:=h.cellAt i (by omega);have hx:=bN h.small i;have HL:=ae hl;clear hl
  go_enter func241,ntmps241
  go_wp2
  go_ret;exact ⟨rfl,rfl⟩
 ·have HZ:=ae (fF (l:=l) (i:=i) (by omega))
  have HL:=ae hl;clear hl
  go_enter func241,ntmps241
  go_wp2
  go_ret;exact ⟨cd (by rw [HZ.o];rfl),rfl⟩
theorem Mc {l:List Nat} {n s:Nat} (hs:Small l) (hl:l.length≤n) (h3:3≤n) (hlt:s<32):
 val l/2^(32*(n-2)-s)=(limb l (n-2)+4294967296*limb l (n-1))*2^s+limb l (n-3)/2^(32-s):=by
 have e0:val (l++List.replicate (n-l.length) 0)=val l:=by rw [cI,mg,Nat.mul_zero,Nat.add_zero]
 have el: ∀i,limb (l++List.replicate (n-l.length) 0) i=limb l i:=by
  intro i;by_cases hi:i<l.length
  ·exact tA hi
  ·rw [fF (l:=l) (by omega)]
   unfold limb;rw [List.getElem?_append_right (by omega)];exact oF _ _
 have sl:Small (l++List.replicate (n-l.length) 0):=hs.append (Small.replicate _);have ll:(l++List.replicate (n-l.length) 0).length=n:=by simp;omega
 generalize l++List.replicate (n-l.length) 0=X at*;have e1:=Cg (X:=X) (t:=n-3) (by omega);have DK:=gG sl (t:=n-3) (by omega);rw [el,el,el,show n-3+1=n-2 from by omega,show n-3+2=n-1 from by omega]at e1;rw [←e0,show 32*(n-2)-s=32*(n-3)+(32-s)from by omega,Nat.pow_add,←Nat.div_div_eq_div_mul,←pow_eq,e1,Nat.add_mul_div_left _ _ (Nat.pow_pos (by decide)),Nat.div_eq_of_lt DK,Nat.zero_add]
 have e2: ∀Z,4294967296*Z=2^(32-s)*(Z*2^s):=by
  intro Z;rw [Nat.mul_left_comm,←Nat.pow_add,show 32-s+s=32 from by omega,Nat.mul_comm]
 rw [e2 (limb l (n-2)+4294967296*limb l (n-1)),Nat.add_mul_div_left _ _ (Nat.two_pow_pos _),Nat.add_comm]
theorem Pm {l:List Nat} {n s:Nat} (hs:Small l) (hl:l.length≤n) (h3:3≤n) (hlt:s<32) (hb:val l<2^(32*n-s)):
 bits BinOp.or IntKind.u64 (IntKind.u64.wrap (((limb l (n-2)+4294967296*limb l (n-1):Nat):Int)*2^s)) (((limb l (n-3):Nat):Int)/2^(32-s))=((val l/2^(32*(n-2)-s):Nat):Int)∧val l/2^(32*(n-2)-s)<18446744073709551616:=by
 have e:=Mc hs hl h3 hlt
 have hv:val l/2^(32*(n-2)-s)<18446744073709551616:=by
  rw [Nat.div_lt_iff_lt_mul (Nat.two_pow_pos _),show(18446744073709551616:Nat)=2^64 from by decide,←Nat.pow_add,show 64+(32*(n-2)-s)=32*n-s from by omega];exact hb
 refine ⟨?_,hv⟩;rw [e]at hv⊢;have hx:=bN hs (n-3)
 have h5:limb l (n-3)/2^(32-s)<2^s:=by
  rw [Nat.div_lt_iff_lt_mul (Nat.two_pow_pos _),←Nat.pow_add,show s+(32-s)=32 from by omega];exact hx
 have e2:(((limb l (n-3):Nat):Int)/2^(32-s))=((limb l (n-3)/2^(32-s):Nat):Int):=by rw [Int.natCast_ediv,Int.natCast_pow];rfl
 have e3:(((limb l (n-2)+4294967296*limb l (n-1):Nat):Int)*2^s)=(((limb l (n-2)+4294967296*limb l (n-1))*2^s:Nat):Int):=by rw [Int.natCast_mul,Int.natCast_pow];rfl
 rw [e2,e3];generalize limb l (n-2)+4294967296*limb l (n-1)=y at*;generalize limb l (n-3)/2^(32-s)=z at*
 have e4:IntKind.u64.wrap ((y*2^s:Nat):Int)=((y*2^s:Nat):Int):=by
  rw [IntKind.wrap_u64];generalize y*2^s=t at*;omega
 rw [e4,u64_or_nat _ _ (by omega) (by omega)];have:=Nat.shiftLeft_add_eq_or_of_lt h5 y;rw [Nat.shiftLeft_eq]at this;rw [←this]
theorem vW (w:World) (a:Option Addr) (k c m n s:Nat) (h:Raw w a k c m) (hk:k≤n) (hn:n<1000000000) (h3:3≤n) (hs:s<32) (hb:m<2^(32*n-s)):
 Calls prog 237 #[.slice a k c,.int .i64 (n:Nat),.int .i64 (s:Nat)] w fun e w'=>e= .returned (.int .u64 (m/2^(32*(n-2)-s):Nat))∧Ext w w':=by
 obtain ⟨l,hl,hv,hA⟩:=h;rw [←hv]at hb;have HW:=ae (Pm hA.small (by omega) h3 hs hb);have b1:=bN hA.small (n-1);have b2:=bN hA.small (n-2);have b3:=bN hA.small (n-3);have HL:=ae hl;have HV:=ae hv;clear hl hv hb
 go_enter func237,ntmps237
 go_wp2_with fail
 have hx0:Ext w (w.alloc (Obj.cells #[Value.slice a k c] 115)):=(Ext.refl _).alloc _;have hcell:(w.alloc (Obj.cells #[Value.slice a k c] 115)).cell? ⟨w.heap.size,0,none⟩=some (.slice a k c):=(aQ.alloc w 115 [.slice a k c]).cell 0;generalize w.alloc (Obj.cells #[Value.slice a k c] 115)=W at hx0 hcell⊢
 have cl: ∀q i:Nat,Calls prog 241 #[.int .i64 (i:Nat),.pointer (some ⟨w.heap.size,0,none⟩)] (W.drewN q) fun e w'=>e= .returned (.int .u64 (limb l i:Nat))∧w'=W.drewN q:=by
  intro q i;exact (uu (W.drewN q) ⟨w.heap.size,0,none⟩ a k c i l (by rw [←hcell];rfl) HL.o ((hA.ext hx0).ext ((Ext.refl _).drewN q))).mono (fun e w' ⟨h1,h2⟩=>⟨h1,h2.symm⟩)
 have CL:=ae cl;clear cl
 have e1:IntKind.i64.wrap ((n:Int)-1)=((n-1:Nat):Int):=by rw [IntWalk.i64_in _ (by omega)];omega
 have e2:IntKind.i64.wrap ((n:Int)-2)=((n-2:Nat):Int):=by rw [IntWalk.i64_in _ (by omega)];omega
 have e3:IntKind.i64.wrap ((n:Int)-3)=((n-3:Nat):Int):=by rw [IntWalk.i64_in _ (by omega)];omega
 have e4:IntKind.i64.wrap (32-(s:Int))=((32-s:Nat):Int):=by rw [IntWalk.i64_in _ (by omega)];omega
 have hor:=AG (limb l (n-1)) (limb l (n-2)) b1 b2;go_quiet ((go_at_call 241;exact Calls.quiet_of_same (CL.o _ _)))
 clear e1 e2 e3 e4;go_wp2_with fail
 go_ret;refine ⟨cd ?_,hx0.drewN _⟩;have hW:=HW.o.1;rw [HV.o]at hW;simp only [Int.natCast_add,Int.natCast_mul]at hW;exact hW
theorem lV (w:World) (a b:Option Addr) (k k' c c' n m x y:Nat) (ha:Raw w a k c n) (hb:Raw w b k' c' m) (h1:len n<900000000) (h2:len m<900000000) (hx:x<18446744073709551616) (hy:y<18446744073709551616) (hle:m*y≤n*x):
 Calls prog 231 #[.slice a k c,.int .u64 (x:Nat),.slice b k' c',.int .u64 (y:Nat)] w (iZ (n*x-m*y) w):=by
 have lx:=fC.2 hx;have ly:=fC.2 hy;go_enter func231,ntmps231
 go_wp2_with fail
 refine (cU _ _ hx).mono ?_;rintro e w1 ⟨a1,c1,rfl,r1,f1,x1⟩;go_wp2_with fail
 refine (uP _ _ _ _ _ _ _ _ _ (ha.ext x1) r1 (by omega) (by omega)).mono ?_;rintro e w2 ⟨a2,c2,rfl,r2,f2,x2⟩;go_wp2_with fail
 refine (cU _ _ hy).mono ?_;rintro e w3 ⟨a3,c3,rfl,r3,f3,x3⟩;go_wp2_with fail
 refine (uP _ _ _ _ _ _ _ _ _ (((hb.ext x1).ext x2).ext x3) r3 (by omega) (by omega)).mono ?_;rintro e w4 ⟨a4,c4,rfl,r4,f4,x4⟩;go_wp2_with fail
 refine (uO _ _ _ _ _ _ _ _ _ ((r2.ext x3).ext x4) r4 hle).mono ?_;rintro e w5 ⟨a5,c5,rfl,r5,f5,x5⟩;go_wp2_with fail
 go_ret;have fl:=(((x1.trans x2).trans x3).trans x4);exact ⟨_,_,rfl,r5,f5.mono fl.size,fl.trans x5⟩
theorem El {W w1:World} {b:Nat} {T:TypeId} {v0 v1 v2 v3 v4:Value} (h:aQ W b T [v0,v1,v2,v3,v4]) (hx:Ext W w1):
 (w1.cell? ⟨b,0,none⟩=some v0∧w1.cell? ⟨b,1,none⟩=some v1∧w1.cell? ⟨b,2,none⟩=some v2∧w1.cell? ⟨b,3,none⟩=some v3∧w1.cell? ⟨b,4,none⟩=some v4)∧w1.frozen? ⟨b,0,none⟩=false∧w1.frozen? ⟨b,1,none⟩=false∧w1.frozen? ⟨b,2,none⟩=false∧w1.frozen? ⟨b,3,none⟩=false∧w1.frozen? ⟨b,4,none⟩=false:=
 ⟨⟨(h.ext hx).cell 0,(h.ext hx).cell 1,(h.ext hx).cell 2,(h.ext hx).cell 3,(h.ext hx).cell 4⟩,(h.ext hx).frozen 0,(h.ext hx).frozen 1,(h.ext hx).frozen 2,(h.ext hx).frozen 3,(h.ext hx).frozen 4⟩
theorem Touch.five {lo hi b:Nat} (w:World) (h1:lo≤b) (h2:b<hi) (v0 v1 v2 v3 v4:Value):Touch lo hi w (((((w.setCell ⟨b,0,none⟩ v0).setCell ⟨b,1,none⟩ v1).setCell ⟨b,2,none⟩ v2).setCell ⟨b,3,none⟩ v3).setCell ⟨b,4,none⟩ v4):=
 (((((Touch.refl _ _ _).setCell h1 h2 _).setCell h1 h2 _).setCell h1 h2 _).setCell h1 h2 _).setCell h1 h2 _
def sg (ev:Bool):Int:=if ev then-1 else 1
theorem Pn (ev:Bool): -sg ev=sg (!ev):=by cases ev<;>rfl
theorem Po (ev:Bool):decide (sg ev=1)= !ev:=by cases ev<;>rfl
def Pp (n m:Nat) (w:World) (e:Ending) (w':World):Prop:=
 ∃(u0 u1 v0 v1:Nat) (ev:Bool),e= .returned (.agg #[.int .u64 u0,.int .u64 u1,.int .u64 v0,.int .u64 v1,.bool ev])∧u0<18446744073709551616∧u1<18446744073709551616∧v0<18446744073709551616∧v1<18446744073709551616∧(v0=0∨ ∃A B,nG n m ev u0 v0 u1 v1 A B)∧Ext w w'
theorem G' {n:Nat} {l:List Nat} (hs:Small l) (hl:l.length=len n) (hv:val l=n) (h0:0<len n):n<2^(32*len n-lz (limb l (len n-1)))∧lz (limb l (len n-1))<32:=by
 have hx:=bN hs (len n-1);have ht:=lU hs (by omega) (by rw [hv,hl]);rw [hl]at ht;obtain ⟨z1,z2,z3⟩:=yF (x:=limb l (len n-1)) (by omega) hx
 have VE:n=val (l.take (len n-1))+4294967296^(len n-1)*limb l (len n-1):=by
  have:=bR (l:=l) (k:=len n-1) (by omega);rw [show len n-1+1=l.length from by omega,List.take_length,hv]at this;exact this
 have JQ:=gG hs (t:=len n-1) (by omega);obtain ⟨NA,Zc⟩:=Ch VE JQ z1 z2 z3;rw [show len n-1+1=len n from by omega,pow_eq]at NA;refine ⟨?_,z1⟩;generalize lz (limb l (len n-1))=s at*;have e:2^(32*len n)=2^(32*len n-s)*2^s:=by rw [←Nat.pow_add];congr 1;omega
 rw [e]at NA;exact Nat.lt_of_mul_lt_mul_right NA
theorem Cj (w:World) (a b:Option Addr) (c c' n m:Nat) (ha:Raw w a (len n) c n) (hb:Raw w b (len m) c' m) (h3:3≤len n) (hle:m≤n) (hs:len n<900000000):
 Calls prog 230 #[.slice a (len n) c,.slice b (len m) c'] w (Pp n m w):=by
 have wO:=cM hle;have la:=ha.le;obtain ⟨l,hl,hv,hA⟩:=id ha;obtain ⟨pa,oa,rfl⟩:=hA.at (by omega);have hx:=bN hA.small (len n-1);have ht:=lU hA.small (by omega) (by rw [hv,hl]);rw [hl]at ht;obtain ⟨tb,z1⟩:=G' hA.small hl hv (by omega);have Nz:=fun W=>bits_LeadingZeros32 (limb l (len n-1)) W (by omega) hx;have HL:=ae hl;have HV:=ae hv
 clear hl hv;generalize lz (limb l (len n-1))=s at tb z1 Nz;have QI:=ae tb;have HLZ:=ae Nz
 clear tb Nz;have hwA: ∀V,Ext w V→Calls prog 237 #[.slice (some ⟨pa,oa,none⟩) (len n) c,.int .i64 (len n:Nat),.int .i64 (s:Nat)] V fun e w'=>e= .returned (.int .u64 (n/2^(32*(len n-2)-s):Nat))∧Ext V w':=fun V hV=>vW _ _ _ _ _ _ _ (ha.ext hV) (Nat.le_refl _) (by omega) h3 z1 QI.o;have hwB: ∀V,Ext w V→Calls prog 237 #[.slice b (len m) c',.int .i64 (len n:Nat),.int .i64 (s:Nat)] V fun e w'=>e= .returned (.int .u64 (m/2^(32*(len n-2)-s):Nat))∧Ext V w':=fun V hV=>vW _ _ _ _ _ _ _ (hb.ext hV) wO (by omega) h3 z1 (Nat.lt_of_le_of_lt hle QI.o);have VJ:0<2^(32*(len n-2)-s):=Nat.two_pow_pos _
 have hXb:n/2^(32*(len n-2)-s)<18446744073709551616:=by
  rw [Nat.div_lt_iff_lt_mul VJ,show(18446744073709551616:Nat)=2^64 from by decide,←Nat.pow_add,show 64+(32*(len n-2)-s)=32*len n-s from by omega];exact QI.o
 have hYX:m/2^(32*(len n-2)-s)≤n/2^(32*(len n-2)-s):=Nat.div_le_div_right hle;have hna:=(Nat.div_add_mod' n (2^(32*(len n-2)-s))).symm;have VI:=(Nat.div_add_mod' m (2^(32*(len n-2)-s))).symm;have TR:=Nat.mod_lt n VJ;have TS:=Nat.mod_lt m VJ;generalize n/2^(32*(len n-2)-s)=X at*;generalize m/2^(32*(len n-2)-s)=Y at*;have hout: ∀(sx:Int) (x y u1 u2 v1 v2:Nat),H_ X Y sx x y u1 u2 v1 v2→v2≤y→v1+v2≤x-y→ ∃A B,nG n m (decide (sx=1)) u1 v1 u2 v2 A B:=fun _ _ _ _ _ _ _ h c1 c2=>h.o hna VI TR TS c1 c2;have HO:=ae hout;have HA:=ae hwA;have HB:=ae hwB
 clear hout hwA hwB hna VI TR TS VJ;go_enter func230,ntmps230
 go_upto_region 1 with fail
 obtain ⟨W,hW,x0,Z0,A0⟩:=aX w 254 [.int .u64 0,.int .u64 0,.int .u64 0,.int .u64 0,.bool false];rw [←hW];clear hW;have hc:=(hA.ext x0).cellAt (len n-1) (by rw [HL.o];omega);go_wp2_with fail
 refine (HLZ.o W).mono ?_;rintro e w' ⟨rfl,rfl⟩;go_wp2_with fail
 refine (HA.o _ x0).mono ?_;rintro e w1 ⟨rfl,hx1⟩;go_wp2_with fail
 refine (HB.o _ (x0.trans hx1)).mono ?_;rintro e w2 ⟨rfl,hx2⟩;have Ha:=hx1.trans hx2;go_wp2_with fail
 go_loopw [7,8,9,10,11,12,13,14,15] (fun a7 a8 a9 FI Zm a12 a13 a14 a15 wr=> ∃(x y u0 u1 u2 v0 v1 v2:Nat) (ev:Bool),x<18446744073709551616∧y<18446744073709551616∧u0<18446744073709551616∧u1<18446744073709551616∧u2<18446744073709551616∧v0<18446744073709551616∧v1<18446744073709551616∧v2<18446744073709551616∧Hid (H_ X Y (sg ev) x y u1 u2 v1 v2)∧Hid (v0=0∨ ∃A B,nG n m ev u0 v0 u1 v1 A B)∧Quiet w2 wr∧
  a7= .int .u64 x∧a8= .int .u64 y∧a9= .int .u64 u0∧FI= .int .u64 u1∧Zm= .int .u64 u2∧a12= .int .u64 v0∧a13= .int .u64 v1∧a14= .int .u64 v2∧a15= .bool ev) (fun _ a8 _ _ _ _ _ _ _ _=>(intOf a8).toNat)
 case atStart=>exact ⟨X,Y,0,1,0,0,0,1,false,hXb,by omega,by omega,by omega,by omega,by omega,by omega,by omega,H_.start hYX,Or.inl rfl,Quiet.refl _,rfl,rfl,rfl,rfl,rfl,rfl,rfl,rfl,rfl⟩
 case round=>
  obtain ⟨x,y,u0,u1,u2,v0,v1,v2,ev,k1,k2,k3,k4,k5,k6,k7,k8,hL,hO,hq,rfl,rfl,rfl,rfl,rfl,rfl,rfl,rfl,rfl⟩:=hrel;have hyx:=hL.o.le;by_cases c1:v2≤y
  ·have Aa:=hL.o.big.1
   have hv2:=hL.o.pos
   have Di:v1+v2≤X:=by
    rw [←Aa];have h1:v2*1≤v2*x:=Nat.mul_le_mul_left _ (by omega);have h2:v1*1≤v1*y:=Nat.mul_le_mul_left _ (by omega);omega
   clear Aa;by_cases c2:v1+v2≤x-y
   ·have d1:decide ((v2:Int)≤(y:Int))=true:=by simp;exact c1
    have d2:decide ((v1:Int)+(v2:Int)≤(x:Int)-(y:Int))=true:=by simp;omega
    have Hb:0<y:=by omega
    have hst:=hL.o.step Hb;have hlt:=Nat.mod_lt x Hb;have hql:x/y≤x:=Nat.div_le_self _ _;have hb2:=hst.big.1;have huv:=hst.uv;have ho:=HO.o _ _ _ _ _ _ _ hL.o c1 c2;rw [Po]at ho;rw [Pn]at hst;have eq1:(x:Int)/(y:Int)=((x/y:Nat):Int):=by rw [Int.natCast_ediv]
    have er1:(x:Int) % (y:Int)=((x % y:Nat):Int):=by rw [Int.natCast_emod]
    generalize x/y=q at*;generalize x % y=r at*;have eq2:IntKind.u64.wrap ((x:Int)/(y:Int))=(q:Int):=by rw [eq1,IntKind.wrap_u64];omega
    have er2:(x:Int).tmod (y:Int)=(r:Int):=by rw [Int.tmod_eq_emod_of_nonneg (by omega),er1]
    have hv3:v1+q*v2≤X:=by
     rw [←hb2];have h1:(v1+q*v2)*1≤(v1+q*v2)*y:=Nat.mul_le_mul_left _ (by omega);omega
    clear hb2;have m1:(q:Int)*(v2:Int)≤18446744073709551615:=by rw [←Int.natCast_mul];omega
    have m2:0≤(q:Int)*(v2:Int):=by rw [←Int.natCast_mul];omega
    have m3:(q:Int)*(u2:Int)≤18446744073709551615:=by rw [←Int.natCast_mul];omega
    have m4:0≤(q:Int)*(u2:Int):=by rw [←Int.natCast_mul];omega
    have m5:(v1:Int)+(q:Int)*(v2:Int)≤18446744073709551615:=by rw [←Int.natCast_mul];omega
    have m6:(u1:Int)+(q:Int)*(u2:Int)≤18446744073709551615:=by rw [←Int.natCast_mul];omega
    have m7:u1+q*u2<18446744073709551616:=by omega
    have m8:v1+q*v2<18446744073709551616:=by omega
    have HST:=ae hst;have XF:=ae ho
    clear hst ho huv hv3;have y1:(1:Int)≤(y:Int):=by omega
    have y2:((y:Int)==0)=false:=by rw [beq_eq_false_iff_ne];omega
    have y3:((y:Nat):Int)≠0:=by omega
    go_wp2_with fail
    go_quiet (fail)
    go_wp2_with fail
    refine ⟨⟨y,r,u1,u2,u1+q*u2,v1,v2,v1+q*v2,!ev,k2,by omega,k4,k5,m7,k7,k8,m8,HST,Or.inr XF.o,hq.drewN _,rfl,rfl,rfl,rfl,?_,rfl,rfl,?_,rfl⟩,?_⟩
    ·rw [Int.natCast_add,Int.natCast_mul]
    ·rw [Int.natCast_add,Int.natCast_mul]
    ·simp [intOf];omega
   ·have d1:decide ((v2:Int)≤(y:Int))=true:=by simp;exact c1
    have d2:decide ((v1:Int)+(v2:Int)≤(x:Int)-(y:Int))=false:=by simp;omega
    obtain ⟨⟨b0,b1,b2,b3,b4⟩,f0,f1,f2,f3,f4⟩:=El A0 (Ha.trans hq.ext);have zz:=(A0.ext (Ha.trans hq.ext)).lt;go_wp2_with fail
    exact bodyPost_ret (v:= .agg #[.int .u64 u0,.int .u64 u1,.int .u64 v0,.int .u64 v1,.bool ev]) (by simp [results,results230,go_sem,b0,b1,b2,b3,b4]) rfl ⟨u0,u1,v0,v1,ev,rfl,k3,k4,k6,k7,hO.o,x0.bh (Ha.trans hq.ext) (Touch.five _ (Nat.le_refl _) (by rw [Z0.o];omega) _ _ _ _ _)⟩
  ·have d2:decide ((v2:Int)≤(y:Int))=false:=by simp;omega
   obtain ⟨⟨b0,b1,b2,b3,b4⟩,f0,f1,f2,f3,f4⟩:=El A0 (Ha.trans hq.ext);have zz:=(A0.ext (Ha.trans hq.ext)).lt;go_wp2_with fail
   exact bodyPost_ret (v:= .agg #[.int .u64 u0,.int .u64 u1,.int .u64 v0,.int .u64 v1,.bool ev]) (by simp [results,results230,go_sem,b0,b1,b2,b3,b4]) rfl ⟨u0,u1,v0,v1,ev,rfl,k3,k4,k6,k7,hO.o,x0.bh (Ha.trans hq.ext) (Touch.five _ (Nat.le_refl _) (by rw [Z0.o];omega) _ _ _ _ _)⟩
def NC (g n m:Nat) (w:World) (s0 s1:Value) (wr:World):Prop:=
 ∃(A B:Nat) (a b:Option Addr) (c c':Nat),A+B≤g∧B≤A∧Nat.gcd A B=Nat.gcd n m∧len A<400000000∧Raw wr a (len A) c A∧Raw wr b (len B) c' B∧Ext w wr∧s0= .slice a (len A) c∧s1= .slice b (len B) c'
theorem Md (w:World) (a b:Option Addr) (k k' c c' n m:Nat) (ha:Raw w a k c n) (hb:Raw w b k' c' m) (h1:len n<400000000) (h2:len m<400000000):
 Calls prog 215 #[.slice a k c,.slice b k' c'] w (iZ (Nat.gcd n m) w):=by
 have ha':=ha.cut;have hb':=hb.cut;go_enter func215,ntmps215
 go_wp2_with fail
 refine (cC _ _ _ _ _ ha).mono ?_;rintro e w' ⟨rfl,rfl⟩;go_wp2_with fail
 refine (cC _ _ _ _ _ hb).mono ?_;rintro e w' ⟨rfl,rfl⟩;go_wp2_with fail
 refine (dJ _ _ _ _ _ _ _ _ _ ha' hb').mono ?_;rintro e w0 ⟨rfl,rG⟩;have hq:=rG.ext;go_upto_if 18 with fail
 go_cut [0,1] (fun s0 s1 wx=>NC (n+m) n m w s0 s1 wx)
 case first=>
  by_cases hlt:n<m
  ·have hc:fc n m= -1:=by unfold fc;rw [if_pos hlt]
   rw [hc];clear hc
   go_wp2_with fail
   go_meet
   exact ⟨m,n,b,a,c',c,by omega,by omega,Nat.gcd_comm _ _,h2,hb'.ext hq,ha'.ext hq,hq,rfl,rfl⟩
  ·have hc:0≤fc n m:=by unfold fc;rw [if_neg (by omega)];split<;>decide
   go_wp2_with fail
   go_meet
   exact ⟨n,m,a,b,c,c',by omega,by omega,rfl,h1,ha'.ext hq,hb'.ext hq,hq,rfl,rfl⟩
 case rest=>
  have HC:=ae hcut;clear hcut;go_wp2_with fail
  go_loopg [0,1] (n+m) (fun g s0 s1 wr=>NC g n m w s0 s1 wr)
  case atStart=>exact HC.o
  case round=>
   obtain ⟨A,B,a,b,c,c',hg,hBA,Ka,hlA,rA,rB,hx,rfl,rfl⟩:=hrel;have VK:=cM hBA;have ND:=ae Ka;clear Ka;have lA:=rA.le;by_cases hB:B=0
   ·subst hB
    rw [kQ];go_wp2_with fail
    refine (oH _ _ _ _ _ rA).mono ?_;rintro e w1 ⟨a1,c1,rfl,r1,f1,x1⟩;go_wp2_with fail
    go_ret;have hg0:=ND.o;rw [Nat.gcd_zero_right]at hg0;rw [←hg0];exact ⟨_,_,rfl,r1,f1.mono hx.size,hx.trans x1⟩
   ·have pB:=gj.2 (Nat.pos_of_ne_zero hB)
    by_cases h2:len A≤2
    ·have Zn:=fC.1 h2
     have Zo:=fC.1 (Nat.le_trans VK h2);go_wp2_with fail
     refine (oG _ _ _ _ _ rA h2).mono ?_;rintro e w' ⟨rfl,rfl⟩;go_wp2_with fail
     refine (oG _ _ _ _ _ rB (Nat.le_trans VK h2)).mono ?_;rintro e w' ⟨rfl,rfl⟩;go_wp2_with fail
     obtain ⟨wo,rfl⟩: ∃wo:World,wo=wr:=⟨_,rfl⟩;go_loopw [5,6] (fun s5 s6 wr=> ∃x y:Nat,x<18446744073709551616∧y<18446744073709551616∧Hid (Nat.gcd x y=Nat.gcd n m)∧Quiet wo wr∧s5= .int .u64 x∧s6= .int .u64 y) (fun _ s6 _=>(intOf s6).toNat)
     case atStart=>exact ⟨A,B,Zn,Zo,ND,Quiet.refl _,rfl,rfl⟩
     case round=>
      obtain ⟨x,y,Zq,ae9,TT,hq,rfl,rfl⟩:=hrel;by_cases hy:y=0
      ·subst hy
       go_wp2_with fail
       refine (cU _ _ Zq).mono ?_;rintro e w1 ⟨a1,c1,rfl,r1,f1,x1⟩;go_wp2_with fail
       go_ret;have hg0:=TT.o;rw [Nat.gcd_zero_right]at hg0;rw [←hg0];exact ⟨_,_,rfl,r1,f1.mono (Nat.le_trans hx.size hq.ext.size),(hx.trans hq.ext).trans x1⟩
      ·have hyb:(((y:Nat):Int) !=0)=true:=by rw [bne_iff_ne];omega
       have e3:(x:Int).tmod (y:Int)=((x % y:Nat):Int):=by rw [Int.tmod_eq_emod_of_nonneg (by omega),Int.natCast_emod]
       have hyi:((y:Int)==0)=false:=by rw [beq_eq_false_iff_ne];omega
       have h1y:(1:Int)≤(y:Int):=by omega
       have hlt:=Nat.mod_lt x (Nat.pos_of_ne_zero hy);have NF:Nat.gcd y (x % y)=Nat.gcd x y:=by rw [Nat.gcd_comm y,←Nat.gcd_rec,Nat.gcd_comm]
       have HG:=ae NF;clear NF
       go_wp2_with fail
       go_quiet (fail)
       go_wp2_with fail
       go_roundw
       case rel=>exact ⟨y,x % y,by omega,by omega,HG.o.trans TT.o,hq.drewN _,rfl,rfl⟩
       case measure=>simp [intOf];omega
    ·go_wp2_with fail
     refine (Cj _ _ _ _ _ _ _ rA rB (by omega) hBA (by omega)).mono ?_;rintro e w1 ⟨u0,u1,v0,v1,ev,rfl,k0,k1,k2,k3,hout,x1⟩;have HO:=ae hout;clear hout
     go_upto_region 11 with fail
     obtain ⟨W,hWe,x0,Z0,A0⟩:=aX w1 254 [.int .u64 u0,.int .u64 u1,.int .u64 v0,.int .u64 v1,.bool ev];rw [←hWe];clear hWe;have hW:=x1.trans x0;obtain ⟨⟨b0,b1,b2,b3,b4⟩,f0,f1,f2,f3,f4⟩:=El A0 (Ext.refl _);by_cases hv0:v0=0
     ·subst hv0
      go_wp2_with fail
      refine (jc _ _ _ _ _ _ _ _ _ (rA.ext hW) (rB.ext hW) (Nat.pos_of_ne_zero hB) (by omega)).mono ?_;rintro e w2 ⟨a2,c2,a3,c3,rfl,r2,f2,r3,f3,x2⟩;have hlt:=Nat.mod_lt A (Nat.pos_of_ne_zero hB);go_wp2_with fail
      go_roundg (B+A % B)
      case measure=>omega
      case rel=>exact ⟨B,A % B,b,a3,c',c3,Nat.le_refl _,by omega,by rw [←ND.o,Nat.gcd_comm B,←Nat.gcd_rec,Nat.gcd_comm],by omega,(rB.ext hW).ext x2,r3,(hx.trans hW).trans x2,rfl,rfl⟩
     ·have hvb:(((v0:Nat):Int)==0)=false:=by rw [beq_eq_false_iff_ne];omega
      obtain ⟨A1,B1,hO⟩: ∃A1 B1,nG A B ev u0 v0 u1 v1 A1 B1:=by
       rcases HO.o with h|h
       ·exact absurd h hv0
       ·exact h
      have acw:=hO.less hv0 (Nat.pos_of_ne_zero hB)
      have BK:A1≤A:=by
       have h5:=hO.ea;have h6:A1≤v1*A1:=Nat.le_mul_of_pos_left _ hO.pos;omega
      cases ev with
      |true=>
       have q1:B*v0≤A*u0:=by have:=hO.fst;simp only [if_true]at this;rw [Nat.mul_comm B,Nat.mul_comm A];omega
       have q2:A*u1≤B*v1:=by have:=hO.snd;simp only [if_true]at this;rw [Nat.mul_comm B,Nat.mul_comm A];omega
       have e1:A*u0-B*v0=A1:=by have:=hO.fst;simp only [if_true]at this;rw [Nat.mul_comm B,Nat.mul_comm A];omega
       have e2:B*v1-A*u1=B1:=by have:=hO.snd;simp only [if_true]at this;rw [Nat.mul_comm B,Nat.mul_comm A];omega
       have hc1:=fun V (hV:Ext wr V)=>lV V _ _ _ _ _ _ _ _ u0 v0 (rA.ext hV) (rB.ext hV) (by omega) (by omega) k0 k2 q1;have hc2:=fun V (hV:Ext wr V)=>lV V _ _ _ _ _ _ _ _ v1 u1 (rB.ext hV) (rA.ext hV) (by omega) (by omega) k3 k1 q2;rw [e1]at hc1;rw [e2]at hc2;have Zr:=cM BK;have sO:=ae hc1;have xq:=ae hc2
       clear hc1 hc2 q1 q2 e1 e2;have fD:True:=trivial;go_wp2_with fail
       go_region_held3 (fun w'=>w'.cell? ⟨w1.heap.size,0,none⟩=some (.int .u64 u0)∧w'.cell? ⟨w1.heap.size,1,none⟩=some (.int .u64 u1)∧w'.cell? ⟨w1.heap.size,2,none⟩=some (.int .u64 v0)∧w'.cell? ⟨w1.heap.size,3,none⟩=some (.int .u64 v1)) (first|exact ⟨b0,b1,b2,b3⟩|(simp [go_sem,b0,b1,b2,b3])) (first
        |(go_at_call 231;have _t:=fD;refine (sO.o _ (hW.drew)).mono ?_;rintro e w2 ⟨a2,c2,rfl,r2,f2,x2⟩;clear fD _t;obtain ⟨⟨b0,b1,b2,b3,b4⟩,f0,f1,O_,f3,f4⟩:=El A0 ((Ext.refl _).drew.trans x2))
        |(go_at_call 231;refine (xq.o _ (hW.drew.trans x2)).mono ?_;rintro e w3 ⟨a3,c3,rfl,r3,f3',x3⟩;obtain ⟨⟨b0,b1,b2,b3,b4⟩,f0,f1,O_,f3,f4⟩:=El A0 (((Ext.refl _).drew.trans x2).trans x3)))
       all_goals go_wp2_with fail
       all_goals go_roundg (A1+B1)
       all_goals (first
        |(case measure=>omega)
        |(case rel=>exact ⟨A1,B1,a2,a3,c2,c3,Nat.le_refl _,hO.le,hO.gcd.trans ND.o,by omega,r2.ext x3,r3,((hx.trans hW).drew.trans x2).trans x3,rfl,rfl⟩))
      |false=>
       have q1:A*u0≤B*v0:=by have:=hO.fst;simp only [Bool.false_eq_true,if_false]at this;rw [Nat.mul_comm B,Nat.mul_comm A];omega
       have q2:B*v1≤A*u1:=by have:=hO.snd;simp only [Bool.false_eq_true,if_false]at this;rw [Nat.mul_comm B,Nat.mul_comm A];omega
       have e1:B*v0-A*u0=A1:=by have:=hO.fst;simp only [Bool.false_eq_true,if_false]at this;rw [Nat.mul_comm B,Nat.mul_comm A];omega
       have e2:A*u1-B*v1=B1:=by have:=hO.snd;simp only [Bool.false_eq_true,if_false]at this;rw [Nat.mul_comm B,Nat.mul_comm A];omega
       have hc1:=fun V (hV:Ext wr V)=>lV V _ _ _ _ _ _ _ _ v0 u0 (rB.ext hV) (rA.ext hV) (by omega) (by omega) k2 k0 q1;have hc2:=fun V (hV:Ext wr V)=>lV V _ _ _ _ _ _ _ _ u1 v1 (rA.ext hV) (rB.ext hV) (by omega) (by omega) k1 k3 q2;rw [e1]at hc1;rw [e2]at hc2;have Zr:=cM BK;have sO:=ae hc1;have xq:=ae hc2
       clear hc1 hc2 q1 q2 e1 e2;have fD:True:=trivial;go_wp2_with fail
       go_region_held3 (fun w'=>w'.cell? ⟨w1.heap.size,0,none⟩=some (.int .u64 u0)∧w'.cell? ⟨w1.heap.size,1,none⟩=some (.int .u64 u1)∧w'.cell? ⟨w1.heap.size,2,none⟩=some (.int .u64 v0)∧w'.cell? ⟨w1.heap.size,3,none⟩=some (.int .u64 v1)) (first|exact ⟨b0,b1,b2,b3⟩|(simp [go_sem,b0,b1,b2,b3])) (first
        |(go_at_call 231;have _t:=fD;refine (sO.o _ (hW.drew)).mono ?_;rintro e w2 ⟨a2,c2,rfl,r2,f2,x2⟩;clear fD _t;obtain ⟨⟨b0,b1,b2,b3,b4⟩,f0,f1,O_,f3,f4⟩:=El A0 ((Ext.refl _).drew.trans x2))
        |(go_at_call 231;refine (xq.o _ (hW.drew.trans x2)).mono ?_;rintro e w3 ⟨a3,c3,rfl,r3,f3',x3⟩;obtain ⟨⟨b0,b1,b2,b3,b4⟩,f0,f1,O_,f3,f4⟩:=El A0 (((Ext.refl _).drew.trans x2).trans x3)))
       all_goals go_wp2_with fail
       all_goals go_roundg (A1+B1)
       all_goals (first
        |(case measure=>omega)
        |(case rel=>exact ⟨A1,B1,a2,a3,c2,c3,Nat.le_refl _,hO.le,hO.gcd.trans ND.o,by omega,r2.ext x3,r3,((hx.trans hW).drew.trans x2).trans x3,rfl,rfl⟩))
end Go.Proofs.YtkpngkdgphojlaaGreat
