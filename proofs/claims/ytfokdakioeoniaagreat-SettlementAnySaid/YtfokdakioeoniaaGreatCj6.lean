/- Texts of the proof. -/
import Derived.Test.YtfokdakioeoniaaGreatCj5
set_option linter.all false
set_option maxHeartbeats 4000000
set_option maxRecDepth 100000
namespace Go.Proofs.YtfokdakioeoniaaGreat
open Go.Proofs.Tryz
open Go.RowKit
def lz (x:Nat):Nat:=32-Lib.bitLen x
theorem Bf: ∀x:Nat,0<x->x<2^64->1<=Lib.bitLen x/\2^(Lib.bitLen x-1)<=x/\x<2^Lib.bitLen x:=by
 intro x;induction x using Nat.strongRecOn with
 |ind x ih=>
  intro h0 h;rw [Lib.bitLen_half x ae h];by_cases h1:x/2=0
  .rw [h1,show Lib.bitLen 0=0 from rfl];simp;omega
  .obtain ⟨a,b,c⟩:=ih (x/2) ae ae ae
   refine ⟨ae,?_,?_⟩
   .obtain ⟨t,e⟩: ∃t,Lib.bitLen (x/2)=t+1:=⟨Lib.bitLen (x/2)-1,ae⟩
    rw [e]at b⊢;rw [show 1+(t+1)-1=t+1 from ae,Nat.pow_succ];rw [show t+1-1=t from by omega]at b;omega
   .rw [Nat.add_comm,Nat.pow_succ];omega
theorem BW {x:Nat} (h0:0<x) (h:x<4294967296):lz x<32/\2147483648<=x*2^lz x/\x*2^lz x<4294967296:=by
 obtain ⟨a,b,c⟩:=Bf x h0 ae;have hl:=Lib.bitLen_le x 32 ai ae;unfold lz;refine ⟨ae,?_,?_⟩
 .have:=Nat.mul_le_mul_right (2^(32-Lib.bitLen x)) b
  rw [<-Nat.pow_add,show Lib.bitLen x-1+(32-Lib.bitLen x)=31 from by omega]at this;omega
 .have:=Nat.mul_lt_mul_of_pos_right c (Nat.two_pow_pos (32-Lib.bitLen x))
  rw [<-Nat.pow_add,show Lib.bitLen x+(32-Lib.bitLen x)=32 from by omega]at this;omega
theorem bits_LeadingZeros32 (x:Nat) (w:World) (h0:0<x) (h1:x<4294967296):
 Calls prog 291 #[.int .u32 (x:Nat)] w λe w'=>e= .returned (.int .i64 (lz x:Nat))/\w=w':=by
 have l:=Lib.bitLen_le x 32 ai ae;have e8:(32-(Lib.bitLen x:Int)+9223372036854775808) % 18446744073709551616-9223372036854775808=((lz x:Nat):Int):=by unfold lz;omega
 have E8:=af e8;clear e8
 have hL:=bits_Len32 (x:Int) w ae ae;rw [Int.toNat_natCast]at hL;go_enter func291,ntmps291
 go_wp2_with (go_at_call 237;refine hL.mono ?_;rintro e w' ⟨rfl,rfl⟩)
 go_ret;exact ⟨cL (by rw [<-E8.o];omega),rfl⟩
theorem E_ {k lo top s m:Nat} (hm:m=lo+4294967296^k*top) (hlo:lo<4294967296^k) (hs:s<32) (z2:2147483648<=top*2^s) (z3:top*2^s<4294967296):
 m*2^s<4294967296^(k+1)/\2147483648*4294967296^k<=m*2^s:=by
 have e3:(4294967296:Nat)=2^(32-s)*2^s:=by rw [<-Nat.pow_add,show 32-s+s=32 from by omega]
 have h1:top<2^(32-s):=by
  apply Nat.lt_of_not_le;intro h
  have:=Nat.mul_le_mul_right (2^s) h;omega
 have h2:=Nat.mul_le_mul_right (2^s) (show top+1<=2^(32-s)from h1);rw [<-e3]at h2;generalize hP:4294967296^k=P at*;constructor
 .have h3:m<P*(top+1):=by rw [Nat.mul_add];omega
  have h4:=Nat.mul_lt_mul_of_pos_right h3 (Nat.two_pow_pos s);have h5:=Nat.mul_le_mul_left P h2;rw [Nat.pow_succ,hP];rw [Nat.mul_assoc]at h4;omega
 .have h4:=Nat.mul_le_mul_right (2^s) (show P*top<=m by omega)
  have h5:=Nat.mul_le_mul_left P z2;rw [Nat.mul_assoc]at h4;rw [Nat.mul_comm];omega
theorem Fa {L:List Nat} {j K V:Nat} (sL:Small L) (hL:j+K+1<=L.length) (hV:V<4294967296^K) (hlt:val (L.drop (j+1))<V):
 L=L.take j++(L.drop j).take (K+1)++L.drop (j+K+1)/\((L.drop j).take (K+1)).length=K+1/\Small ((L.drop j).take (K+1))/\val ((L.drop j).take (K+1))<V*4294967296/\val (L.drop (j+K+1))=0:=by
 have e1:L.drop j=(L.drop j).take (K+1)++L.drop (j+K+1):=by
  rw [show j+K+1=j+(K+1)from ae,<-List.drop_drop,List.take_append_drop]
 have h1:=fK (l:=L) (k:=j) ae;have h2:=bZ sL j
 have h3:val (L.drop j)<V*4294967296:=by
  have:=Nat.mul_le_mul_right 4294967296 (show val (L.drop (j+1))+1<=V from hlt);omega
 have h4:V*4294967296<=4294967296^(K+1):=by
  rw [Nat.pow_succ];exact Nat.mul_le_mul_right _ ae
 have h5:=congrArg val e1;have h7:((L.drop j).take (K+1)).length=K+1:=by rw [List.length_take,List.length_drop];omega
 rw [cY,h7]at h5;refine ⟨by rw [List.append_assoc,<-e1,List.take_append_drop],h7,(sL.drop j).take _,ae,?_⟩;apply Nat.eq_zero_of_not_pos;intro h8
 have:=Nat.mul_le_mul_left (4294967296^(K+1)) (show 1<=val (L.drop (j+K+1))from h8);omega
theorem Lv {L r Q:List Nat} {j K V N:Nat} (hL:j+K+1<=L.length) (Wh:L=L.take j++(L.drop j).take (K+1)++L.drop (j+K+1)) (hX:((L.drop j).take (K+1)).length=K+1) (h0:val (L.drop (j+K+1))=0) (hr:r.length=K+1)
 (TZ:val r=val ((L.drop j).take (K+1)) % V) (hQ:j<Q.length) (hv:val (Q.drop (j+1))*V*4294967296^(j+1)+val L=N):
 val ((Q.set j (val ((L.drop j).take (K+1))/V)).drop j)*V*4294967296^j+val (L.take j++r++L.drop (j+K+1))=N/\val ((L.take j++r++L.drop (j+K+1)).drop j)=val r:=by
 have hA:(L.take j).length=j:=by rw [List.length_take];omega
 constructor
 .rw [uB hQ]
  have e1:=congrArg val Wh;have x1:val ((L.drop j).take (K+1)++L.drop (j+K+1))=val ((L.drop j).take (K+1)):=by rw [cY,h0,Nat.mul_zero,Nat.add_zero]
  have x2:val (r++L.drop (j+K+1))=val r:=by rw [cY,h0,Nat.mul_zero,Nat.add_zero]
  rw [List.append_assoc,cY,hA,x1]at e1;rw [List.append_assoc,cY,hA,x2];have e2:=Nat.div_add_mod' (val ((L.drop j).take (K+1))) V;rw [<-TZ]at e2;generalize val ((L.drop j).take (K+1))=x at*;generalize x/V=d at e2⊢;rw [<-hv,e1,Nat.pow_succ,<-e2];generalize 4294967296^j=p;generalize val (Q.drop (j+1))=q;rw [Nat.add_mul,Nat.add_mul,Nat.mul_add p,Nat.mul_comm p (d*V)]
  have:4294967296*q*V*p=q*V*(p*4294967296):=by
   rw [Nat.mul_assoc 4294967296 q V,Nat.mul_assoc 4294967296,Nat.mul_comm 4294967296,Nat.mul_assoc (q*V)]
  omega
 .rw [List.append_assoc,List.drop_append_of_le_length ae,List.drop_of_length_le ae,List.nil_append,cY,h0,Nat.mul_zero,Nat.add_zero]
theorem NS {q V R n m s:Nat} (h:q*V+R=n*2^s) (hV:V=m*2^s) (hR:R<V) (_hm:0<m):q=n/m/\R=n % m*2^s:=by
 have Lq:0<V:=ae;have h1:q=n*2^s/V:=by rw [<-h,Nat.mul_comm,Nat.mul_add_div Lq,Nat.div_eq_of_lt hR,Nat.add_zero]
 have h2:R=n*2^s % V:=by rw [<-h,Nat.mul_comm,Nat.mul_add_mod,Nat.mod_eq_of_lt hR]
 refine ⟨?_,?_⟩
 .rw [h1,hV,Nat.mul_div_mul_right _ _ (Nat.two_pow_pos s)]
 .rw [h2,hV,Nat.mul_mod_mul_right]
theorem Io {L:List Nat} {dg K V n s:Nat} (hL:L.length=dg+(K+1)) (hn:n<4294967296^(dg+K)) (hs:s<32) (hv:val L=n*2^s) (hV:2147483648*4294967296^K<=V):val (L.drop dg)<V:=by
 have h1:=lK L dg ae;have h2:=Nat.mul_lt_mul_of_pos_right hn (Nat.two_pow_pos s);have h3:2^s<=2^31:=Nat.pow_le_pow_right ai ae;rw [Nat.pow_add]at h2;generalize 4294967296^dg=p at*;apply Nat.lt_of_lt_of_le _ hV;apply Nat.lt_of_not_le;intro h
 have h4:=Nat.mul_le_mul_left p h;have h5:=Nat.mul_le_mul_left (p*4294967296^K) h3;have h6:p*(2147483648*4294967296^K)=p*4294967296^K*2^31:=by rw [Nat.mul_comm 2147483648,Nat.mul_assoc]
 omega
theorem NT {w:World} {b i:Nat} {T:TypeId} {P:List Nat} (h:aY w b T (dC P)) (x:Nat) (v:Int) (hv:v=(x:Int)):aY (w.setCell ⟨b,i,none⟩ (.int .u32 v)) b T (dC (P.set i x)):=by
 subst hv;have:=h.set i (.int .u32 (x:Nat));rwa [gz]at this
theorem Touch.ext1 {w0 w w':World} {b:Nat} (h:Ext w0 w) (t:Touch b (b+1) w w') (hb:w0.heap.size<=b):Ext w0 w':=
 ⟨⟨t.os.trans h.below.os,t.tape.trans h.below.tape,t.output.trans h.below.output,by rw [t.size];exact h.below.size,λk hk=>(t.block k (Or.inl ae)).trans (h.below.block k hk)⟩,Nat.le_trans h.drawn t.drawn⟩
theorem aY.NU {w w':World} {b b':Nat} {T:TypeId} {vs:List Value} (h:aY w b' T vs) (t:Touch b (b+1) w w') (hb:b'≠b):aY w' b' T vs:=by
 unfold aY;rw [t.block b' ae];exact h
theorem zk (w:World) (a b:Option Addr) (c c' n m:Nat) (ha:Raw w a (len n) c n) (hb:Raw w b (len m) c' m) (h2:2<=len m) (hle:m<=n) (hs:len n<1000000000):
 Calls prog 263 #[.slice a (len n) c,.slice b (len m) c'] w (JY (n/m) (n % m) w):=by
 have Hp:=dt hle;have la:=ha.le;have lb:=hb.le;obtain ⟨l,hl,hv,hB⟩:=id hb;obtain ⟨pb,ob,rfl⟩:=hB.at ae;have hc:=hB.cellAt (len m-1) ae;have hx:=bZ hB.small (len m-1);have ht:=nZ hB.small ae (by rw [hv,hl]);rw [hl]at ht;obtain ⟨z1,z2,z3⟩:=BW (x:=limb l (len m-1)) ae hx;have QH:=bits_LeadingZeros32 (limb l (len m-1)) w ae hx
 have ZG:m=val (l.take (len m-1))+4294967296^(len m-1)*limb l (len m-1):=by
  have:=cd (l:=l) (k:=len m-1) ae;rw [show len m-1+1=l.length from ae,List.take_length,hv]at this;exact this
 have QI:=iK hB.small (t:=len m-1) ae;have HM:=af ZG;have HL:=af hl;have HV:=af hv;have QJ:=af QI
 clear ZG hl hv QI;generalize hS:lz (limb l (len m-1))=s at z1 z2 z3 QH;clear hS;go_enter func263,ntmps263
 go_wp2_with fail
 refine QH.mono ?_;rintro e w' ⟨rfl,rfl⟩;go_wp2_with fail
 refine (wY _ _ _ _ _ _ hb ae z1).mono ?_;rintro e w1 ⟨Y',rfl,hY',ZH,sY',hYa,hx1⟩;go_wp2_with fail
 refine (wY _ _ _ _ _ _ (ha.ext hx1) hs z1).mono ?_;rintro e w2 ⟨X0,rfl,hX0,hXv,sX0,hXa,hx2⟩;have ZI: ∃dg,len n+1=dg+len m:=⟨len n+1-len m,ae⟩;obtain ⟨dg,ZI⟩:=ZI;go_wp2_with (at_make;refine bU _ rfl _ _ 59 rfl 93 (.int .u32 0) 4 underlying59 Tryz.info_u32 rfl _ _ dg rfl rfl ae ae ae ae ?_;intro w3 hw3 hx3 hz3)
 obtain ⟨SC,nt2⟩:=E_ HM.o QJ.o z1 z2 z3;rw [show len m-1+1=len m from by omega]at SC;have hYt:val (Y'.take (len m))=m*2^s:=by rw [ng sY' ae (by rw [ZH];exact cg.2 SC),ZH]
 have WX:(Y'.take (len m)).length=len m:=by rw [List.length_take];omega
 have WY:2147483648<=limb (Y'.take (len m)) (len m-1):=by
  have h5:=cd (l:=Y'.take (len m)) (k:=len m-1) ae;rw [show len m-1+1=(Y'.take (len m)).length from ae,List.take_length,hYt]at h5;have h6:=iK (sY'.take (len m)) (t:=len m-1) ae;apply Nat.le_of_lt_succ;apply Nat.lt_of_not_le;intro h7
  have h8:=Nat.mul_le_mul_left (4294967296^(len m-1)) (show limb (Y'.take (len m)) (len m-1)+1<=2147483648 by omega);rw [Nat.mul_add,Nat.mul_one,Nat.mul_comm _ 2147483648]at h8;omega
 have hst:=Io (L:=X0) (dg:=dg) (K:=len m-1) (n:=n) (s:=s) (V:=m*2^s) ae (by rw [show dg+(len m-1)=len n from by omega];exact js n) z1 hXv nt2;have agJ:=hYa.lt;have agK:=hXa.lt;have a1:aY w3 w.heap.size 93 (dC Y'):=(hYa.ext hx2).ext hx3;have a2:aY w3 w1.heap.size 93 (dC X0):=hXa.ext hx3;have a3:aY w3 w2.heap.size 93 (dC (List.replicate dg 0)):=by have:=hw3.o;rwa [dv]at this
 have hE:Ext w w3:=(hx1.trans hx2).trans hx3;have HYT:=af hYt;have Ip:=af WX;have HY':=af hY';have HYV:=af ZH;have tx:=af hX0;have HXV:=af hXv
 have HDG:=af ZI;have A1:=af a1;have A2:=af a2;have A3:=af a3
 have HNT:=af SC;have HST:=af hst
 clear hYt WX hY' ZH hX0 hXv ZI a1 a2 a3 SC nt2 hst hw3 hz3 hYa hXa QH hc;have hdb:dg<=1000000000:=dB HDG.o;go_loopw [36] (λi wr=> ∃(k t:Nat) (Q L:List Nat),Hid (k+t=dg)/\Hid (Q.length=dg)/\Small Q/\Hid (L.length=dg+len m)/\Small L/\Hid (val (Q.drop t)*(m*2^s)*4294967296^t+val L=n*2^s)/\Hid (val (L.drop t)<m*2^s)/\Hid (aY wr w.heap.size 93 (dC Y'))/\Hid (aY wr w1.heap.size 93 (dC L))/\Hid (aY wr w2.heap.size 93 (dC Q))/\Ext w wr/\i= .int .i64 k) (λi _=>dg-(intOf i).toNat)
 case atStart=>
  refine ⟨0,dg,List.replicate dg 0,X0,(show _=_ by omega),(show _=_ by simp),Small.replicate _,(show _=_ by have:=tx.o;have:=HDG.o;omega),sX0,?_,HST,A1,A2,A3,hE,rfl⟩;show _=_;rw [List.drop_of_length_le aX,HXV.o];simp [val]
 case round=>
  obtain ⟨k,t,Q,L,Wi,hQ,sQ,hL,sL,hval,hlt,b1,b2,b3,dU,rfl⟩:=hrel;by_cases h0:k<dg
  .have hj: ∃j,t=j+1:=⟨t-1,dB Wi.o⟩
   obtain ⟨j,rfl⟩:=hj;have hkj:(dg:Int)-1-(k:Int)=(j:Int):=dB Wi.o;have hjb:j<dg:=dB Wi.o;obtain ⟨ZJ,w2e,w3e,w4e,w5e⟩:=Fa (L:=L) (j:=j) (K:=len m) (V:=m*2^s) sL (by rw [hL.o];omega) HNT.o hlt.o;have hAl:(L.take j).length=j:=by rw [List.length_take,hL.o];omega
   have rW:aY wr w1.heap.size 93 (dC (L.take j++(L.drop j).take (len m+1)++L.drop (j+len m+1))):=by rw [<-ZJ];exact b2.o
   have T7:=Bd wr w1.heap.size w.heap.size (dg+len m-j) (len m+1) (len m) (L.take j) ((L.drop j).take (len m+1)) (L.drop (j+len m+1)) (Y'.take (len m)) ae rW w2e w3e ae ae
    ((b1.o.limbs sY' (by rw [HY'.o];omega)).take (len m) (by rw [HY'.o];omega)|>λh=>by rw [HY'.o]at h;exact h) Ip.o h2 WY (by rw [HYT.o];exact w4e)
   rw [hAl,HYT.o]at T7
   have ZK:val ((L.drop j).take (len m+1))/(m*2^s)<4294967296:=by
    rw [Nat.div_lt_iff_lt_mul ae,Nat.mul_comm];exact w4e
   have hVp:0<m*2^s:=ae;have hstep:=λr (hr:r.length=len m+1) TZ=>Lv (L:=L) (r:=r) (Q:=Q) (j:=j) (K:=len m) (V:=m*2^s) (N:=n*2^s) (by rw [hL.o];omega) ZJ w2e w5e hr TZ (by rw [hQ.o];omega) hval.o;have HS:=af hstep;have HD:=af T7;have HW1:=af ZJ;have HAL:=af hAl
   clear hstep T7 ZJ w2e w3e w4e w5e hAl rW;have WZ:wr.cell? ⟨w2.heap.size,j,none⟩=some (.int .u32 (limb Q j:Nat)):=by rw [b3.o.cell,fu _ _ (by rw [hQ.o];omega)]
   go_wp2_with fail
   rw [show j+len m+1-j=len m+1 from by omega]
   (with_reducible refine HD.o.mono ?_)
   rintro e w5 ⟨r,rfl,hr,sr,TZ,dI,Be⟩;have hs5:w5.cell? ⟨w2.heap.size,j,none⟩=some (.int .u32 (limb Q j:Nat)):=by rw [y_ Be (p:=⟨w2.heap.size,j,none⟩) (by simp only;omega)];exact WZ
   have c1:=b1.o.NU Be ae;have c3:=b3.o.NU Be ae;have Qh:=c3.frozen j;obtain ⟨k1,k2⟩:=HS.o r hr TZ;have K1:=af k1;have K2:=af k2;have C1:=af c1;have HR:=af hr;have HRV:=af TZ
   have C3:=af (λv hv=>NT (i:=j) c3 (val ((L.drop j).take (len m+1))/(m*2^s)) v hv);have abd:=af dI;have gl:=Touch.ext1 dU Be hx1.size;clear k1 k2 c1 c3 WZ hr TZ dI HD HS;go_wp2_with fail
   refine ⟨⟨k+1,j,Q.set j (val ((L.drop j).take (len m+1))/(m*2^s)),L.take j++r++L.drop (j+len m+1),(show _=_ by have:=Wi.o;omega),(show _=_ by simp [hQ.o]),sQ.set _ _ ZK,?_,((sL.take j).append sr).append (sL.drop _),K1,?_,(show aY _ _ _ _ from C1.o.other _ _ (by simp only;omega)),(show aY _ _ _ _ from abd.o.other _ _ (by simp only;omega)),C3.o _ rfl,gl.setCell (by simp only;omega) _,bq⟩,?_⟩
   .show _=_
    rw [List.length_append,List.length_append,HAL.o,HR.o,List.length_drop,hL.o];omega
   .show _<_
    rw [K2.o,HRV.o];exact Nat.mod_lt _ hVp
   .simp [intOf];omega
  .obtain rfl:k=dg:=dB Wi.o
   obtain rfl:t=0:=dB Wi.o;have WO:=hval.o;rw [List.drop_zero,Nat.pow_zero,Nat.mul_one]at WO;have BS:=hlt.o;rw [List.drop_zero]at BS;obtain ⟨q1,q2⟩:=NS WO rfl BS (iy.1 ae);have hLk:val (L.take (len m))=val L:=ng sL (by rw [hL.o];omega) (cg.2 (Nat.lt_trans BS HNT.o))
   have W_:Raw wr (some ⟨w1.heap.size,0,none⟩) (len m) (k+len m) (n % m*2^s):=by
    have h3:=(b2.o.limbs sL (by rw [hL.o];omega)).take (len m) (by rw [hL.o];omega);rw [hL.o]at h3;exact ⟨L.take (len m),by rw [List.length_take,hL.o];omega,by rw [hLk,q2],h3⟩
   have NV:Raw wr (some ⟨w2.heap.size,0,none⟩) k k (n/m):=by
    have h3:=b3.o.limbs sQ (by rw [hQ.o];omega);rw [hQ.o]at h3;exact ⟨Q,hQ.o,q1,h3⟩
   have RR:=af W_;have RQ:=af NV
   clear WO BS q1 q2 hLk W_ NV;go_wp2_with fail
   refine (zj _ _ _ _ _ _ RR.o z1).mono ?_;rintro e w6 ⟨a6,c6,rfl,C_,SD,kZ⟩;rw [Nat.mul_div_cancel _ (Nat.two_pow_pos s)]at C_⊢;go_wp2_with fail
   refine (cM _ _ _ _ _ (RQ.o.ext kZ)).mono ?_;rintro e w7 ⟨rfl,rfl⟩;go_wp2_with fail
   go_ret2
   exact ⟨_,_,a6,c6,rfl,(RQ.o.ext kZ).cut,Fr.some ae,C_,SD.mono dU.size,dU.trans kZ⟩
theorem ke (w:World) (a b:Option Addr) (k k' c c' n m:Nat) (ha:Raw w a k c n) (hb:Raw w b k' c' m) (hm:0<m) (hs:len n<1000000000):
 Calls prog 196 #[.slice a k c,.slice b k' c'] w (rU (n/m) (n % m) w):=by
 have ha':=ha.cut;have hb':=hb.cut;have pm:=iy.2 hm;have NK:(((len m:Nat):Int)==0)=false:=by rw [beq_eq_false_iff_ne];omega
 go_enter func196,ntmps196
 go_wp2_with fail
 refine (cM _ _ _ _ _ ha).mono ?_;rintro e w' ⟨rfl,rfl⟩;go_wp2_with fail
 refine (cM _ _ _ _ _ hb).mono ?_;rintro e w' ⟨rfl,rfl⟩;go_wp2_with fail
 refine (ep _ _ _ _ _ _ _ _ _ ha' hb').mono ?_;rintro e w0 ⟨rfl,tR⟩;have ha0:=ha'.ext tR.ext;have hb0:=hb'.ext tR.ext;by_cases hlt:n<m
 .have xS:gp n m= -1:=by unfold gp;rw [if_pos hlt]
  rw [xS];clear xS
  go_wp2_with fail
  refine (qL _ _ _ _ _ ha0).mono ?_;rintro e w1 ⟨a1,c1,rfl,hr1,jw,hx1⟩;go_wp2
  go_ret3
  rw [Nat.div_eq_of_lt hlt,Nat.mod_eq_of_lt hlt];exact ⟨none,0,a1,c1,rfl,Raw.nil _,Fr.none _,hr1,jw.mono tR.ext.size,tR.ext.trans hx1⟩
 .have xS:0<=gp n m:=by unfold gp;rw [if_neg ae];split<;>decide
  by_cases h2:len n<=2
  .have J0:len m<=2:=Nat.le_trans (dt ae) h2
   have QK:=gA.1 h2;have QL:=gA.1 J0;have hq:n/m<=n:=Nat.div_le_self _ _;have hr:n % m<m:=Nat.mod_lt _ hm;go_wp2_with fail
   refine (qK _ _ _ _ _ ha0 h2).mono ?_;rintro e w' ⟨rfl,rfl⟩;go_wp2_with fail
   refine (qK _ _ _ _ _ hb0 J0).mono ?_;rintro e w' ⟨rfl,rfl⟩;have ZL:((m:Nat):Int)≠0:=ae;have ZM:(((m:Nat):Int)==0)=false:=by rw [beq_eq_false_iff_ne];omega
   have h1m:(1:Int)<=(m:Int):=ae;have ZK:n/m<18446744073709551616:=Nat.lt_of_le_of_lt hq QK;have hrb:n % m<18446744073709551616:=Nat.lt_trans hr QL
   have e1:IntKind.u64.wrap ((n:Int)/(m:Int))=((n/m:Nat):Int):=by
    rw [IntKind.wrap_u64,<-Int.natCast_ediv];generalize n/m=z at*;omega
   have e2:(n:Int).tmod (m:Int)=((n % m:Nat):Int):=by
    rw [Int.tmod_eq_emod_of_nonneg ae,Int.natCast_emod]
   generalize Wd:n/m=qq at*;generalize Lt:n % m=rr at*;have HQ:=af Wd;have HR:=af Lt;clear Wd Lt
   have gC:True:=trivial;go_wp2_with fail
   go_region_with (first
    |(go_at_call 191;have _t:=gC;refine (dD _ _ (by assumption)).mono ?_;rintro e w1 ⟨a1,c1,rfl,hr1,jw,hx1⟩;clear gC _t)
    |(go_at_call 191;refine (dD _ _ (by assumption)).mono ?_;rintro e w2 ⟨a2,c2,rfl,hr2,hf2,hx2⟩))
   all_goals go_wp2
   all_goals go_ret3
   all_goals exact ⟨a1,c1,a2,c2,rfl,hr1.ext hx2,jw.mono tR.ext.size,hr2,hf2.mono (Nat.le_trans tR.ext.size hx1.size),(tR.ext.drew.trans hx1).trans hx2⟩
  .have h2': ¬len n<=2:=h2
   by_cases h1:len m=1
   .have h1':(((len m:Nat):Int)==1)=true:=by simp [h1]
    have SE:=Ic.1 (Nat.le_of_eq h1);obtain ⟨l,hl,hv,hB⟩:=hb0;obtain ⟨pb,ob,rfl⟩:=hB.at ae;have hc:=hB.cellAt 0 ae
    have e0:limb l 0=m:=by
     rw [h1]at hl;match l,hl with
     | [x],_=>simpa [limb,val]using hv
    rw [e0,Nat.add_zero]at hc;have HL:=af hl;have HV:=af hv;have H1:=af h1;have E0:=af e0;clear hl hv h1 e0
    have h0m:(0:Int)<(len m:Int):=ae;go_wp2_with fail
    refine (vI _ _ _ _ _ ha0 hm SE).mono ?_;rintro e w1 ⟨a1,c1,a2,c2,rfl,hr1,jw,hr2,hf2,hx1⟩;go_wp2
    go_ret3
    exact ⟨a1,c1,a2,c2,rfl,hr1,jw.mono tR.ext.size,hr2,hf2.mono tR.ext.size,tR.ext.trans hx1⟩
   .have h1':(((len m:Nat):Int)==1)=false:=by rw [beq_eq_false_iff_ne];omega
    go_wp2_with fail
    refine (zk _ _ _ _ _ _ _ ha0 hb0 ae ae hs).mono ?_;rintro e w1 ⟨a1,c1,a2,c2,rfl,hr1,jw,hr2,hf2,hx1⟩;go_wp2
    go_ret3
    exact ⟨a1,c1,a2,c2,rfl,hr1,jw.mono tR.ext.size,hr2,hf2.mono tR.ext.size,tR.ext.trans hx1⟩
structure Nk (X Y:Nat) (s:Int) (x y u1 u2 v1 v2:Nat):Prop where
 sg:s=1\/s= -1
 ex:(x:Int)=s*(u1*X-v1*Y)
 ey:(y:Int)=s*(v2*Y-u2*X)
 det:(u1:Int)*v2-u2*v1=s
 le:y<=x
 uv:u2<=v2
 sum:u1+u2<=v1+v2
 pos:1<=v2
theorem Nk.start {X Y:Nat} (h:Y<=X):Nk X Y 1 X Y 1 0 0 1:=
 ⟨Or.inl rfl,aX,aX,aX,h,ae,ae,ae⟩
theorem Nk.big {X Y:Nat} {s:Int} {x y u1 u2 v1 v2:Nat} (h:Nk X Y s x y u1 u2 v1 v2):v2*x+v1*y=X/\u2*x+u1*y=Y:=by
 obtain ⟨hs,ex,ey,det,-,-,-,-⟩:=h;constructor
 .apply Int.ofNat.inj
  show((v2*x+v1*y:Nat):Int)=(X:Int)
  push_cast
  rw [ex,ey];rcases hs with rfl|rfl<;>grind
 .apply Int.ofNat.inj
  show((u2*x+u1*y:Nat):Int)=(Y:Int)
  push_cast
  rw [ex,ey];rcases hs with rfl|rfl<;>grind
theorem Nk.step {X Y:Nat} {s:Int} {x y u1 u2 v1 v2:Nat} (h:Nk X Y s x y u1 u2 v1 v2) (h0:0<y):Nk X Y (-s) y (x % y) u2 (u1+x/y*u2) v2 (v1+x/y*v2):=by
 have hm:(x:Int)=(x/y:Nat)*y+(x % y:Nat):=by rw [<-Int.natCast_mul,<-Int.natCast_add,Nat.div_add_mod']
 have hq:1<=x/y:=(Nat.le_div_iff_mul_le h0).2 (dB h.le);have hr:=Nat.mod_lt x h0;obtain ⟨hs,ex,ey,det,-,uv,sum,pos⟩:=h;generalize x/y=q at*;generalize x % y=r at*;have h1:u2*(q-1)<=v2*(q-1):=Nat.mul_le_mul_right _ uv;obtain ⟨k,rfl⟩: ∃k,q=k+1:=⟨q-1,ae⟩;simp only [Nat.add_sub_cancel]at h1;rw [Nat.mul_comm u2,Nat.mul_comm v2]at h1;refine ⟨ae,?_,?_,?_,ae,?_,?_,?_⟩
 .rw [ey];grind
 .have e:(r:Int)=x-((k+1:Nat):Int)*y:=ae
  rw [e,ex,ey];push_cast;grind
 .push_cast;grind
 .rw [Nat.add_mul,Nat.add_mul,Nat.one_mul,Nat.one_mul];omega
 .rw [Nat.add_mul,Nat.add_mul,Nat.one_mul,Nat.one_mul];omega
 .rw [Nat.add_mul,Nat.one_mul];omega
structure pF (a b:Nat) (even:Bool) (u0 v0 u1 v1 A B:Nat):Prop where
 fst:if even then A+v0*b=u0*a else A+u0*a=v0*b
 snd:if even then B+u1*a=v1*b else B+v1*b=u1*a
 le:B<=A
 ea:a=v1*A+v0*B
 eb:b=u1*A+u0*B
 pos:1<=v1
theorem yH {x y E a1:Int} (hx:0<=x) (qH:x<=y) (ha:0<=a1) (hE:a1<=E):0<=x*a1/\x*a1<=y*E:=
 ⟨Int.mul_nonneg hx ha,Int.mul_le_mul qH hE ha ae⟩
theorem Nk.o {X Y a b E a1 b1:Nat} {s:Int} {x y u1 u2 v1 v2:Nat} (h:Nk X Y s x y u1 u2 v1 v2) (ha:a=X*E+a1) (hb:b=Y*E+b1) (ha1:a1<E) (hb1:b1<E)
 (c1:v2<=y) (c2:v1+v2<=x-y): ∃A B,pF a b (decide (s=1)) u1 v1 u2 v2 A B:=by
 obtain ⟨hs,ex,ey,det,le,uv,sum,pos⟩:=h;have ha':(a:Int)=X*E+a1:=by exact_mod_cast ha
 have hb':(b:Int)=Y*E+b1:=by exact_mod_cast hb
 have p1:=yH (x:=(u2:Int)) (y:=v2) (E:=E) (a1:=a1) ae ae ae ae;have p2:=yH (x:=(v2:Int)) (y:=v2) (E:=E) (a1:=b1) ae ae ae ae;have p3:=yH (x:=((u1+u2:Nat):Int)) (y:=((v1+v2:Nat):Int)) (E:=E) (a1:=a1) ae ae ae ae;have p4:=yH (x:=((v1+v2:Nat):Int)) (y:=((v1+v2:Nat):Int)) (E:=E) (a1:=b1) ae ae ae ae;have q1:(v2:Int)*E<=y*E:=Int.mul_le_mul_of_nonneg_right ae ae;have q2:((v1+v2:Nat):Int)*E<=(x-y)*E:=Int.mul_le_mul_of_nonneg_right ae ae;have eB:s*(v2*b-u2*a)=y*E+s*(v2*b1-u2*a1):=by rw [ha',hb',ey];grind
 have eD:s*(u1*a-v1*b)-s*(v2*b-u2*a)=(x-y)*E+s*(((u1+u2:Nat):Int)*a1-((v1+v2:Nat):Int)*b1):=by rw [ha',hb',ex,ey];push_cast;grind
 have hB:0<=s*(v2*b-u2*a):=by
  rw [eB];rcases hs with rfl|rfl<;>omega
 have hD:0<=s*(u1*a-v1*b)-s*(v2*b-u2*a):=by
  rw [eD];rcases hs with rfl|rfl<;>omega
 obtain ⟨B,eB'⟩:=Int.eq_ofNat_of_zero_le hB;obtain ⟨A,eA'⟩:=Int.eq_ofNat_of_zero_le (show 0<=s*(u1*a-v1*b) by omega);refine ⟨A,B,?_,?_,ae,?_,?_,pos⟩
 .rcases hs with rfl|rfl
  .rw [if_pos ai]
   apply Int.ofNat.inj;show((A+v1*b:Nat):Int)=((u1*a:Nat):Int)
   push_cast;grind
  .rw [if_neg ai]
   apply Int.ofNat.inj;show((A+u1*a:Nat):Int)=((v1*b:Nat):Int)
   push_cast;grind
 .rcases hs with rfl|rfl
  .rw [if_pos ai]
   apply Int.ofNat.inj;show((B+u2*a:Nat):Int)=((v2*b:Nat):Int)
   push_cast;grind
  .rw [if_neg ai]
   apply Int.ofNat.inj;show((B+v2*b:Nat):Int)=((u2*a:Nat):Int)
   push_cast;grind
 .apply Int.ofNat.inj
  show((a:Nat):Int)=((v2*A+v1*B:Nat):Int)
  push_cast
  rw [<-eA',<-eB'];rcases hs with rfl|rfl<;>grind
 .apply Int.ofNat.inj
  show((b:Nat):Int)=((u2*A+u1*B:Nat):Int)
  push_cast
  rw [<-eA',<-eB'];rcases hs with rfl|rfl<;>grind
theorem pF.gcd {a b:Nat} {even:Bool} {u0 v0 u1 v1 A B:Nat} (h:pF a b even u0 v0 u1 v1 A B):Nat.gcd A B=Nat.gcd a b:=by
 obtain ⟨h1,h2,-,ea,eb,-⟩:=h;apply Nat.dvd_antisymm
 .have d1:=Nat.gcd_dvd_left A B
  have d2:=Nat.gcd_dvd_right A B;apply Nat.dvd_gcd
  .rw [ea];exact Nat.dvd_add (Nat.dvd_mul_left_of_dvd d1 _) (Nat.dvd_mul_left_of_dvd d2 _)
  .rw [eb];exact Nat.dvd_add (Nat.dvd_mul_left_of_dvd d1 _) (Nat.dvd_mul_left_of_dvd d2 _)
 .have d1:=Nat.gcd_dvd_left a b
  have d2:=Nat.gcd_dvd_right a b;cases even
  .simp only [Bool.false_eq_true,if_false]at h1 h2
   apply Nat.dvd_gcd
   .exact (Nat.dvd_add_left (Nat.dvd_mul_left_of_dvd d1 u0)).1 (by rw [h1];exact Nat.dvd_mul_left_of_dvd d2 _)
   .exact (Nat.dvd_add_left (Nat.dvd_mul_left_of_dvd d2 v1)).1 (by rw [h2];exact Nat.dvd_mul_left_of_dvd d1 _)
  .simp only [if_true]at h1 h2
   apply Nat.dvd_gcd
   .exact (Nat.dvd_add_left (Nat.dvd_mul_left_of_dvd d2 v0)).1 (by rw [h1];exact Nat.dvd_mul_left_of_dvd d1 _)
   .exact (Nat.dvd_add_left (Nat.dvd_mul_left_of_dvd d1 u1)).1 (by rw [h2];exact Nat.dvd_mul_left_of_dvd d2 _)
theorem pF.less {a b:Nat} {even:Bool} {u0 v0 u1 v1 A B:Nat} (h:pF a b even u0 v0 u1 v1 A B) (h0:v0≠0) (hb:0<b):A+B<a+b:=by
 have:=h.ea;have h1:A<=v1*A:=Nat.le_mul_of_pos_left _ h.pos;have h2:B<=v0*B:=Nat.le_mul_of_pos_left _ ae;omega
theorem xT (w:World) (p:Addr) (a:Option Addr) (k c i:Nat) (l:List Nat) (hp:w.cell? p=some (.slice a k c)) (hl:l.length=k) (h:fN w a c l):
 Calls prog 299 #[.int .i64 (i:Nat),.pointer (some p)] w λe w'=>e= .returned (.int .u64 (limb l i:Nat))/\w=w':=by
 have h1:=h.le;have h2:=h.short;by_cases hi:i<k
 .obtain ⟨b,o,rfl⟩:=h.at ae
  have hc:=h.cellAt i ae;have hx:=bZ h.small i;have HL:=af hl;clear hl
  go_enter func299,ntmps299
  go_wp2
  go_ret;exact ⟨rfl,rfl⟩
 .have HZ:=af (gK (l:=l) (i:=i) ae)
  have HL:=af hl;clear hl
  go_enter func299,ntmps299
  go_wp2
  go_ret;exact ⟨cL (by rw [HZ.o];rfl),rfl⟩
theorem QM {l:List Nat} {n s:Nat} (hs:Small l) (hl:l.length<=n) (h3:3<=n) (hlt:s<32):
 val l/2^(32*(n-2)-s)=(limb l (n-2)+4294967296*limb l (n-1))*2^s+limb l (n-3)/2^(32-s):=by
 have e0:val (l++List.replicate (n-l.length) 0)=val l:=by rw [cY,lL,Nat.mul_zero,Nat.add_zero]
 have el: ∀i,limb (l++List.replicate (n-l.length) 0) i=limb l i:=by
  intro i;by_cases hi:i<l.length
  .exact vH hi
  .rw [gK (l:=l) ae]
   unfold limb;rw [List.getElem?_append_right ae];exact nj _ _
 have sl:Small (l++List.replicate (n-l.length) 0):=hs.append (Small.replicate _);have ll:(l++List.replicate (n-l.length) 0).length=n:=by simp;omega
 generalize l++List.replicate (n-l.length) 0=X at*;have e1:=E5 (X:=X) (t:=n-3) ae;have hlo:=iK sl (t:=n-3) ae;rw [el,el,el,show n-3+1=n-2 from ae,show n-3+2=n-1 from by omega]at e1;rw [<-e0,show 32*(n-2)-s=32*(n-3)+(32-s)from ae,Nat.pow_add,<-Nat.div_div_eq_div_mul,<-pow_eq,e1,Nat.add_mul_div_left _ _ (Nat.pow_pos ai),Nat.div_eq_of_lt hlo,Nat.zero_add]
 have e2: ∀Z,4294967296*Z=2^(32-s)*(Z*2^s):=by
  intro Z;rw [Nat.mul_left_comm,<-Nat.pow_add,show 32-s+s=32 from ae,Nat.mul_comm]
 rw [e2 (limb l (n-2)+4294967296*limb l (n-1)),Nat.add_mul_div_left _ _ (Nat.two_pow_pos _),Nat.add_comm]
theorem T8 {l:List Nat} {n s:Nat} (hs:Small l) (hl:l.length<=n) (h3:3<=n) (hlt:s<32) (hb:val l<2^(32*n-s)):
 bits BinOp.or IntKind.u64 (IntKind.u64.wrap (((limb l (n-2)+4294967296*limb l (n-1):Nat):Int)*2^s)) (((limb l (n-3):Nat):Int)/2^(32-s))=((val l/2^(32*(n-2)-s):Nat):Int)/\val l/2^(32*(n-2)-s)<18446744073709551616:=by
 have e:=QM hs hl h3 hlt
 have hv:val l/2^(32*(n-2)-s)<18446744073709551616:=by
  rw [Nat.div_lt_iff_lt_mul (Nat.two_pow_pos _),show(18446744073709551616:Nat)=2^64 from ai,<-Nat.pow_add,show 64+(32*(n-2)-s)=32*n-s from by omega];exact hb
 refine ⟨?_,hv⟩;rw [e]at hv⊢;have hx:=bZ hs (n-3)
 have h5:limb l (n-3)/2^(32-s)<2^s:=by
  rw [Nat.div_lt_iff_lt_mul (Nat.two_pow_pos _),<-Nat.pow_add,show s+(32-s)=32 from by omega];exact hx
 have e2:(((limb l (n-3):Nat):Int)/2^(32-s))=((limb l (n-3)/2^(32-s):Nat):Int):=by rw [Int.natCast_ediv,Int.natCast_pow];rfl
 have e3:(((limb l (n-2)+4294967296*limb l (n-1):Nat):Int)*2^s)=(((limb l (n-2)+4294967296*limb l (n-1))*2^s:Nat):Int):=by rw [Int.natCast_mul,Int.natCast_pow];rfl
 rw [e2,e3];generalize limb l (n-2)+4294967296*limb l (n-1)=y at*;generalize limb l (n-3)/2^(32-s)=z at*
 have e4:IntKind.u64.wrap ((y*2^s:Nat):Int)=((y*2^s:Nat):Int):=by
  rw [IntKind.wrap_u64];generalize y*2^s=t at*;omega
 rw [e4,u64_or_nat _ _ ae ae];have:=Nat.shiftLeft_add_eq_or_of_lt h5 y;rw [Nat.shiftLeft_eq]at this;rw [<-this]
theorem zl (w:World) (a:Option Addr) (k c m n s:Nat) (h:Raw w a k c m) (hk:k<=n) (hn:n<1000000000) (h3:3<=n) (hs:s<32) (hb:m<2^(32*n-s)):
 Calls prog 292 #[.slice a k c,.int .i64 (n:Nat),.int .i64 (s:Nat)] w λe w'=>e= .returned (.int .u64 (m/2^(32*(n-2)-s):Nat))/\Ext w w':=by
 obtain ⟨l,hl,hv,hA⟩:=h;rw [<-hv]at hb;have HW:=af (T8 hA.small ae h3 hs hb);have b1:=bZ hA.small (n-1);have b2:=bZ hA.small (n-2);have b3:=bZ hA.small (n-3);have HL:=af hl;have HV:=af hv;clear hl hv hb
 go_enter func292,ntmps292
 go_wp2_with fail
 have hx0:Ext w (w.alloc (Obj.cells #[Value.slice a k c] 59)):=ah.alloc _;have hcell:(w.alloc (Obj.cells #[Value.slice a k c] 59)).cell? ⟨w.heap.size,0,none⟩=some (.slice a k c):=(aY.alloc w 59 [.slice a k c]).cell 0;generalize w.alloc (Obj.cells #[Value.slice a k c] 59)=W at hx0 hcell⊢
 have cl: ∀q i:Nat,Calls prog 299 #[.int .i64 (i:Nat),.pointer (some ⟨w.heap.size,0,none⟩)] (W.drewN q) λe w'=>e= .returned (.int .u64 (limb l i:Nat))/\w'=W.drewN q:=by
  intro q i;exact (xT (W.drewN q) ⟨w.heap.size,0,none⟩ a k c i l (by rw [<-hcell];rfl) HL.o ((hA.ext hx0).ext (ah.drewN q))).mono (λe w' ⟨h1,h2⟩=>⟨h1,h2.symm⟩)
 have CL:=af cl;clear cl
 have e1:IntKind.i64.wrap ((n:Int)-1)=((n-1:Nat):Int):=by rw [IntWalk.i64_in _ ae];omega
 have e2:IntKind.i64.wrap ((n:Int)-2)=((n-2:Nat):Int):=by rw [IntWalk.i64_in _ ae];omega
 have e3:IntKind.i64.wrap ((n:Int)-3)=((n-3:Nat):Int):=by rw [IntWalk.i64_in _ ae];omega
 have e4:IntKind.i64.wrap (32-(s:Int))=((32-s:Nat):Int):=by rw [IntWalk.i64_in _ ae];omega
 have Sz:=EP (limb l (n-1)) (limb l (n-2)) b1 b2;go_quiet ((go_at_call 299;exact Calls.quiet_of_same (CL.o _ _)))
 clear e1 e2 e3 e4;go_wp2
 go_ret;refine ⟨cL ?_,hx0.drewN _⟩;have hW:=HW.o.1;rw [HV.o]at hW;simp only [Int.natCast_add,Int.natCast_mul]at hW;exact hW
theorem n_ (w:World) (a b:Option Addr) (k k' c c' n m x y:Nat) (ha:Raw w a k c n) (hb:Raw w b k' c' m) (h1:len n<900000000) (h2:len m<900000000) (hx:x<18446744073709551616) (hy:y<18446744073709551616) (hle:m*y<=n*x):
 Calls prog 261 #[.slice a k c,.int .u64 (x:Nat),.slice b k' c',.int .u64 (y:Nat)] w (jU (n*x-m*y) w):=by
 have lx:=gA.2 hx;have ly:=gA.2 hy;go_enter func261,ntmps261
 go_wp2_with fail
 refine (dD _ _ hx).mono ?_;rintro e w1 ⟨a1,c1,rfl,r1,f1,x1⟩;go_wp2_with fail
 refine (pD _ _ _ _ _ _ _ _ _ (ha.ext x1) r1 ae ae).mono ?_;rintro e w2 ⟨a2,c2,rfl,r2,f2,x2⟩;go_wp2_with fail
 refine (dD _ _ hy).mono ?_;rintro e w3 ⟨a3,c3,rfl,r3,f3,x3⟩;go_wp2_with fail
 refine (pD _ _ _ _ _ _ _ _ _ (((hb.ext x1).ext x2).ext x3) r3 ae ae).mono ?_;rintro e w4 ⟨a4,c4,rfl,r4,f4,x4⟩;go_wp2_with fail
 refine (yG _ _ _ _ _ _ _ _ _ ((r2.ext x3).ext x4) r4 hle).mono ?_;rintro e w5 ⟨a5,c5,rfl,r5,f5,x5⟩;go_wp2
 go_ret;have gW:=(((x1.trans x2).trans x3).trans x4);exact ⟨_,_,rfl,r5,f5.mono gW.size,gW.trans x5⟩
theorem Iq {W w1:World} {b:Nat} {T:TypeId} {v0 v1 v2 v3 v4:Value} (h:aY W b T [v0,v1,v2,v3,v4]) (hx:Ext W w1):
 (w1.cell? ⟨b,0,none⟩=some v0/\w1.cell? ⟨b,1,none⟩=some v1/\w1.cell? ⟨b,2,none⟩=some v2/\w1.cell? ⟨b,3,none⟩=some v3/\w1.cell? ⟨b,4,none⟩=some v4)/\w1.frozen? ⟨b,0,none⟩=false/\w1.frozen? ⟨b,1,none⟩=false/\w1.frozen? ⟨b,2,none⟩=false/\w1.frozen? ⟨b,3,none⟩=false/\w1.frozen? ⟨b,4,none⟩=false:=
 ⟨⟨(h.ext hx).cell 0,(h.ext hx).cell 1,(h.ext hx).cell 2,(h.ext hx).cell 3,(h.ext hx).cell 4⟩,(h.ext hx).frozen 0,(h.ext hx).frozen 1,(h.ext hx).frozen 2,(h.ext hx).frozen 3,(h.ext hx).frozen 4⟩
theorem Touch.five {lo hi b:Nat} (w:World) (h1:lo<=b) (h2:b<hi) (v0 v1 v2 v3 v4:Value):Touch lo hi w (((((w.setCell ⟨b,0,none⟩ v0).setCell ⟨b,1,none⟩ v1).setCell ⟨b,2,none⟩ v2).setCell ⟨b,3,none⟩ v3).setCell ⟨b,4,none⟩ v4):=
 (((((Touch.refl _ _ _).setCell h1 h2 _).setCell h1 h2 _).setCell h1 h2 _).setCell h1 h2 _).setCell h1 h2 _
def sg (ev:Bool):Int:=if ev then-1 else 1
theorem T9 (ev:Bool): -sg ev=sg (!ev):=by cases ev<;>rfl
theorem T_ (ev:Bool):decide (sg ev=1)= !ev:=by cases ev<;>rfl
def Ua (n m:Nat) (w:World) (e:Ending) (w':World):Prop:=
 ∃(u0 u1 v0 v1:Nat) (ev:Bool),e= .returned (.agg #[.int .u64 u0,.int .u64 u1,.int .u64 v0,.int .u64 v1,.bool ev])/\u0<18446744073709551616/\u1<18446744073709551616/\v0<18446744073709551616/\v1<18446744073709551616/\(v0=0\/ ∃A B,pF n m ev u0 v0 u1 v1 A B)/\Ext w w'
theorem Lx {n:Nat} {l:List Nat} (hs:Small l) (hl:l.length=len n) (hv:val l=n) (h0:0<len n):n<2^(32*len n-lz (limb l (len n-1)))/\lz (limb l (len n-1))<32:=by
 have hx:=bZ hs (len n-1);have ht:=nZ hs ae (by rw [hv,hl]);rw [hl]at ht;obtain ⟨z1,z2,z3⟩:=BW (x:=limb l (len n-1)) ae hx
 have ZG:n=val (l.take (len n-1))+4294967296^(len n-1)*limb l (len n-1):=by
  have:=cd (l:=l) (k:=len n-1) ae;rw [show len n-1+1=l.length from ae,List.take_length,hv]at this;exact this
 have QI:=iK hs (t:=len n-1) ae;obtain ⟨SC,nt2⟩:=E_ ZG QI z1 z2 z3;rw [show len n-1+1=len n from ae,pow_eq]at SC;refine ⟨?_,z1⟩;generalize lz (limb l (len n-1))=s at*;have e:2^(32*len n)=2^(32*len n-s)*2^s:=by rw [<-Nat.pow_add];congr 1;omega
 rw [e]at SC;exact Nat.lt_of_mul_lt_mul_right SC
theorem Fb (w:World) (a b:Option Addr) (c c' n m:Nat) (ha:Raw w a (len n) c n) (hb:Raw w b (len m) c' m) (h3:3<=len n) (hle:m<=n) (hs:len n<900000000):
 Calls prog 260 #[.slice a (len n) c,.slice b (len m) c'] w (Ua n m w):=by
 have Hp:=dt hle;have la:=ha.le;obtain ⟨l,hl,hv,hA⟩:=id ha;obtain ⟨pa,oa,rfl⟩:=hA.at ae;have hx:=bZ hA.small (len n-1);have ht:=nZ hA.small ae (by rw [hv,hl]);rw [hl]at ht;obtain ⟨tb,z1⟩:=Lx hA.small hl hv ae;have QH:=λW=>bits_LeadingZeros32 (limb l (len n-1)) W ae hx;have HL:=af hl;have HV:=af hv
 clear hl hv;generalize lz (limb l (len n-1))=s at tb z1 QH;have HTB:=af tb;have HLZ:=af QH
 clear tb QH;have hwA: ∀V,Ext w V->Calls prog 292 #[.slice (some ⟨pa,oa,none⟩) (len n) c,.int .i64 (len n:Nat),.int .i64 (s:Nat)] V λe w'=>e= .returned (.int .u64 (n/2^(32*(len n-2)-s):Nat))/\Ext V w':=λV hV=>zl _ _ _ _ _ _ _ (ha.ext hV) cG ae h3 z1 HTB.o;have hwB: ∀V,Ext w V->Calls prog 292 #[.slice b (len m) c',.int .i64 (len n:Nat),.int .i64 (s:Nat)] V λe w'=>e= .returned (.int .u64 (m/2^(32*(len n-2)-s):Nat))/\Ext V w':=λV hV=>zl _ _ _ _ _ _ _ (hb.ext hV) Hp ae h3 z1 (Nat.lt_of_le_of_lt hle HTB.o);have ZN:0<2^(32*(len n-2)-s):=Nat.two_pow_pos _
 have hXb:n/2^(32*(len n-2)-s)<18446744073709551616:=by
  rw [Nat.div_lt_iff_lt_mul ZN,show(18446744073709551616:Nat)=2^64 from ai,<-Nat.pow_add,show 64+(32*(len n-2)-s)=32*len n-s from by omega];exact HTB.o
 have hYX:m/2^(32*(len n-2)-s)<=n/2^(32*(len n-2)-s):=Nat.div_le_div_right hle;have Xa:=(Nat.div_add_mod' n (2^(32*(len n-2)-s))).symm;have ZM:=(Nat.div_add_mod' m (2^(32*(len n-2)-s))).symm;have Xb:=Nat.mod_lt n ZN;have Xc:=Nat.mod_lt m ZN;generalize n/2^(32*(len n-2)-s)=X at*;generalize m/2^(32*(len n-2)-s)=Y at*;have hout: ∀(sx:Int) (x y u1 u2 v1 v2:Nat),Nk X Y sx x y u1 u2 v1 v2->v2<=y->v1+v2<=x-y-> ∃A B,pF n m (decide (sx=1)) u1 v1 u2 v2 A B:=λ_ _ _ _ _ _ _ h c1 c2=>h.o Xa ZM Xb Xc c1 c2;have HO:=af hout;have HA:=af hwA;have HB:=af hwB
 clear hout hwA hwB Xa ZM Xb Xc ZN;go_enter func260,ntmps260
 go_upto_region 1 with fail
 obtain ⟨W,hW,x0,Z0,A0⟩:=bS w 275 [.int .u64 0,.int .u64 0,.int .u64 0,.int .u64 0,.bool false];rw [<-hW];clear hW;have hc:=(hA.ext x0).cellAt (len n-1) (by rw [HL.o];omega);go_wp2_with fail
 refine (HLZ.o W).mono ?_;rintro e w' ⟨rfl,rfl⟩;go_wp2_with fail
 refine (HA.o _ x0).mono ?_;rintro e w1 ⟨rfl,hx1⟩;go_wp2_with fail
 refine (HB.o _ (x0.trans hx1)).mono ?_;rintro e w2 ⟨rfl,hx2⟩;have xV:=hx1.trans hx2;go_wp2
 go_loopw [7,8,9,10,11,12,13,14,15] (λa7 a8 a9 Fc ZO a12 a13 a14 a15 wr=> ∃(x y u0 u1 u2 v0 v1 v2:Nat) (ev:Bool),x<18446744073709551616/\y<18446744073709551616/\u0<18446744073709551616/\u1<18446744073709551616/\u2<18446744073709551616/\v0<18446744073709551616/\v1<18446744073709551616/\v2<18446744073709551616/\Hid (Nk X Y (sg ev) x y u1 u2 v1 v2)/\Hid (v0=0\/ ∃A B,pF n m ev u0 v0 u1 v1 A B)/\Quiet w2 wr/\
  a7= .int .u64 x/\a8= .int .u64 y/\a9= .int .u64 u0/\Fc= .int .u64 u1/\ZO= .int .u64 u2/\a12= .int .u64 v0/\a13= .int .u64 v1/\a14= .int .u64 v2/\a15= .bool ev) (λ_ a8 _ _ _ _ _ _ _ _=>(intOf a8).toNat)
 case atStart=>exact ⟨X,Y,0,1,0,0,0,1,false,hXb,ae,ae,ae,ae,ae,ae,ae,Nk.start hYX,Or.inl rfl,Quiet.refl _,rfl,rfl,rfl,rfl,rfl,rfl,rfl,rfl,rfl⟩
 case round=>
  obtain ⟨x,y,u0,u1,u2,v0,v1,v2,ev,k1,k2,k3,k4,k5,k6,k7,k8,hL,hO,hq,rfl,rfl,rfl,rfl,rfl,rfl,rfl,rfl,rfl⟩:=hrel;have hyx:=hL.o.le;by_cases c1:v2<=y
  .have Da:=hL.o.big.1
   have hv2:=hL.o.pos
   have Ir:v1+v2<=X:=by
    rw [<-Da];have h1:v2*1<=v2*x:=Nat.mul_le_mul_left _ ae;have h2:v1*1<=v1*y:=Nat.mul_le_mul_left _ ae;omega
   clear Da;by_cases c2:v1+v2<=x-y
   .have d1:decide ((v2:Int)<=(y:Int))=true:=by simp;exact c1
    have d2:decide ((v1:Int)+(v2:Int)<=(x:Int)-(y:Int))=true:=by simp;omega
    have Lz:0<y:=ae;have hst:=hL.o.step Lz;have hlt:=Nat.mod_lt x Lz;have NW:x/y<=x:=Nat.div_le_self _ _;have hb2:=hst.big.1;have huv:=hst.uv;have ho:=HO.o _ _ _ _ _ _ _ hL.o c1 c2;rw [T_]at ho;rw [T9]at hst;have eq1:(x:Int)/(y:Int)=((x/y:Nat):Int):=by rw [Int.natCast_ediv]
    have er1:(x:Int) % (y:Int)=((x % y:Nat):Int):=by rw [Int.natCast_emod]
    generalize x/y=q at*;generalize x % y=r at*;have eq2:IntKind.u64.wrap ((x:Int)/(y:Int))=(q:Int):=by rw [eq1,IntKind.wrap_u64];omega
    have er2:(x:Int).tmod (y:Int)=(r:Int):=by rw [Int.tmod_eq_emod_of_nonneg ae,er1]
    have hv3:v1+q*v2<=X:=by
     rw [<-hb2];have h1:(v1+q*v2)*1<=(v1+q*v2)*y:=Nat.mul_le_mul_left _ ae;omega
    clear hb2;have m1:(q:Int)*(v2:Int)<=18446744073709551615:=by rw [<-Int.natCast_mul];omega
    have m2:0<=(q:Int)*(v2:Int):=by rw [<-Int.natCast_mul];omega
    have m3:(q:Int)*(u2:Int)<=18446744073709551615:=by rw [<-Int.natCast_mul];omega
    have m4:0<=(q:Int)*(u2:Int):=by rw [<-Int.natCast_mul];omega
    have m5:(v1:Int)+(q:Int)*(v2:Int)<=18446744073709551615:=by rw [<-Int.natCast_mul];omega
    have m6:(u1:Int)+(q:Int)*(u2:Int)<=18446744073709551615:=by rw [<-Int.natCast_mul];omega
    have m7:u1+q*u2<18446744073709551616:=ae;have m8:v1+q*v2<18446744073709551616:=ae;have HST:=af hst;have HOO:=af ho
    clear hst ho huv hv3;have y1:(1:Int)<=(y:Int):=ae;have y2:((y:Int)==0)=false:=by rw [beq_eq_false_iff_ne];omega
    have y3:((y:Nat):Int)≠0:=ae;go_wp2_with fail
    go_quiet (fail)
    go_wp2_with fail
    refine ⟨⟨y,r,u1,u2,u1+q*u2,v1,v2,v1+q*v2,!ev,k2,ae,k4,k5,m7,k7,k8,m8,HST,Or.inr HOO.o,hq.drewN _,rfl,rfl,rfl,rfl,?_,rfl,rfl,?_,rfl⟩,?_⟩
    .rw [Int.natCast_add,Int.natCast_mul]
    .rw [Int.natCast_add,Int.natCast_mul]
    .simp [intOf];omega
   .have d1:decide ((v2:Int)<=(y:Int))=true:=by simp;exact c1
    have d2:decide ((v1:Int)+(v2:Int)<=(x:Int)-(y:Int))=false:=by simp;omega
    obtain ⟨⟨b0,b1,b2,b3,b4⟩,f0,f1,f2,f3,f4⟩:=Iq A0 (xV.trans hq.ext);have zz:=(A0.ext (xV.trans hq.ext)).lt;go_wp2
    exact bodyPost_ret (v:= .agg #[.int .u64 u0,.int .u64 u1,.int .u64 v0,.int .u64 v1,.bool ev]) (by simp [results,results260,go_sem,b0,b1,b2,b3,b4]) rfl ⟨u0,u1,v0,v1,ev,rfl,k3,k4,k6,k7,hO.o,x0.bH (xV.trans hq.ext) (Touch.five _ cG (by rw [Z0.o];omega) _ _ _ _ _)⟩
  .have d2:decide ((v2:Int)<=(y:Int))=false:=by simp;omega
   obtain ⟨⟨b0,b1,b2,b3,b4⟩,f0,f1,f2,f3,f4⟩:=Iq A0 (xV.trans hq.ext);have zz:=(A0.ext (xV.trans hq.ext)).lt;go_wp2
   exact bodyPost_ret (v:= .agg #[.int .u64 u0,.int .u64 u1,.int .u64 v0,.int .u64 v1,.bool ev]) (by simp [results,results260,go_sem,b0,b1,b2,b3,b4]) rfl ⟨u0,u1,v0,v1,ev,rfl,k3,k4,k6,k7,hO.o,x0.bH (xV.trans hq.ext) (Touch.five _ cG (by rw [Z0.o];omega) _ _ _ _ _)⟩
def SF (g n m:Nat) (w:World) (s0 s1:Value) (wr:World):Prop:=
 ∃(A B:Nat) (a b:Option Addr) (c c':Nat),A+B<=g/\B<=A/\Nat.gcd A B=Nat.gcd n m/\len A<400000000/\Raw wr a (len A) c A/\Raw wr b (len B) c' B/\Ext w wr/\s0= .slice a (len A) c/\s1= .slice b (len B) c'
theorem QN (w:World) (a b:Option Addr) (k k' c c' n m:Nat) (ha:Raw w a k c n) (hb:Raw w b k' c' m) (h1:len n<400000000) (h2:len m<400000000):
 Calls prog 195 #[.slice a k c,.slice b k' c'] w (jU (Nat.gcd n m) w):=by
 have ha':=ha.cut;have hb':=hb.cut;go_enter func195,ntmps195
 go_wp2_with fail
 refine (cM _ _ _ _ _ ha).mono ?_;rintro e w' ⟨rfl,rfl⟩;go_wp2_with fail
 refine (cM _ _ _ _ _ hb).mono ?_;rintro e w' ⟨rfl,rfl⟩;go_wp2_with fail
 refine (ep _ _ _ _ _ _ _ _ _ ha' hb').mono ?_;rintro e w0 ⟨rfl,tR⟩;have hq:=tR.ext;go_upto_if 18 with fail
 go_cut [0,1] (λs0 s1 wx=>SF (n+m) n m w s0 s1 wx)
 case first=>
  by_cases hlt:n<m
  .have hc:gp n m= -1:=by unfold gp;rw [if_pos hlt]
   rw [hc];clear hc
   go_wp2
   go_meet
   exact ⟨m,n,b,a,c',c,ae,ae,Nat.gcd_comm _ _,h2,hb'.ext hq,ha'.ext hq,hq,rfl,rfl⟩
  .have hc:0<=gp n m:=by unfold gp;rw [if_neg ae];split<;>decide
   go_wp2
   go_meet
   exact ⟨n,m,a,b,c,c',ae,ae,rfl,h1,ha'.ext hq,hb'.ext hq,hq,rfl,rfl⟩
 case rest=>
  have HC:=af hcut;clear hcut;go_wp2_with fail
  go_loopg [0,1] (n+m) (λg s0 s1 wr=>SF g n m w s0 s1 wr)
  case atStart=>exact HC.o
  case round=>
   obtain ⟨A,B,a,b,c,c',hg,hBA,NX,hlA,rA,rB,hx,rfl,rfl⟩:=hrel;have ZP:=dt hBA;have SG:=af NX;clear NX;have lA:=rA.le;by_cases hB:B=0
   .subst hB
    rw [nc];go_wp2_with fail
    refine (qL _ _ _ _ _ rA).mono ?_;rintro e w1 ⟨a1,c1,rfl,r1,f1,x1⟩;go_wp2
    go_ret;have hg0:=SG.o;rw [Nat.gcd_zero_right]at hg0;rw [<-hg0];exact ⟨_,_,rfl,r1,f1.mono hx.size,hx.trans x1⟩
   .have pB:=iy.2 (Nat.pos_of_ne_zero hB)
    by_cases h2:len A<=2
    .have abi:=gA.1 h2
     have abj:=gA.1 (Nat.le_trans ZP h2);go_wp2_with fail
     refine (qK _ _ _ _ _ rA h2).mono ?_;rintro e w' ⟨rfl,rfl⟩;go_wp2_with fail
     refine (qK _ _ _ _ _ rB (Nat.le_trans ZP h2)).mono ?_;rintro e w' ⟨rfl,rfl⟩;go_wp2_with fail
     obtain ⟨wo,rfl⟩: ∃wo:World,wo=wr:=⟨_,rfl⟩;go_loopw [5,6] (λs5 s6 wr=> ∃x y:Nat,x<18446744073709551616/\y<18446744073709551616/\Hid (Nat.gcd x y=Nat.gcd n m)/\Quiet wo wr/\s5= .int .u64 x/\s6= .int .u64 y) (λ_ s6 _=>(intOf s6).toNat)
     case atStart=>exact ⟨A,B,abi,abj,SG,Quiet.refl _,rfl,rfl⟩
     case round=>
      obtain ⟨x,y,abk,agY,Xd,hq,rfl,rfl⟩:=hrel;by_cases hy:y=0
      .subst hy
       go_wp2_with fail
       refine (dD _ _ abk).mono ?_;rintro e w1 ⟨a1,c1,rfl,r1,f1,x1⟩;go_wp2
       go_ret;have hg0:=Xd.o;rw [Nat.gcd_zero_right]at hg0;rw [<-hg0];exact ⟨_,_,rfl,r1,f1.mono (Nat.le_trans hx.size hq.ext.size),(hx.trans hq.ext).trans x1⟩
      .have hyb:(((y:Nat):Int) !=0)=true:=by rw [bne_iff_ne];omega
       have e3:(x:Int).tmod (y:Int)=((x % y:Nat):Int):=by rw [Int.tmod_eq_emod_of_nonneg ae,Int.natCast_emod]
       have hyi:((y:Int)==0)=false:=by rw [beq_eq_false_iff_ne];omega
       have h1y:(1:Int)<=(y:Int):=ae;have hlt:=Nat.mod_lt x (Nat.pos_of_ne_zero hy);have SH:Nat.gcd y (x % y)=Nat.gcd x y:=by rw [Nat.gcd_comm y,<-Nat.gcd_rec,Nat.gcd_comm]
       have HG:=af SH;clear SH
       go_wp2_with fail
       go_quiet (fail)
       go_wp2_with fail
       go_roundw
       case rel=>exact ⟨y,x % y,ae,ae,HG.o.trans Xd.o,hq.drewN _,rfl,rfl⟩
       case measure=>simp [intOf];omega
    .go_wp2_with fail
     refine (Fb _ _ _ _ _ _ _ rA rB ae hBA ae).mono ?_;rintro e w1 ⟨u0,u1,v0,v1,ev,rfl,k0,k1,k2,k3,hout,x1⟩;have HO:=af hout;clear hout
     go_upto_region 11 with fail
     obtain ⟨W,hWe,x0,Z0,A0⟩:=bS w1 275 [.int .u64 u0,.int .u64 u1,.int .u64 v0,.int .u64 v1,.bool ev];rw [<-hWe];clear hWe;have hW:=x1.trans x0;obtain ⟨⟨b0,b1,b2,b3,b4⟩,f0,f1,f2,f3,f4⟩:=Iq A0 ah;by_cases hv0:v0=0
     .subst hv0
      go_wp2_with fail
      refine (ke _ _ _ _ _ _ _ _ _ (rA.ext hW) (rB.ext hW) (Nat.pos_of_ne_zero hB) ae).mono ?_;rintro e w2 ⟨a2,c2,a3,c3,rfl,r2,f2,r3,f3,x2⟩;have hlt:=Nat.mod_lt A (Nat.pos_of_ne_zero hB);go_wp2_with fail
      go_roundg (B+A % B)
      case measure=>omega
      case rel=>exact ⟨B,A % B,b,a3,c',c3,cG,ae,by rw [<-SG.o,Nat.gcd_comm B,<-Nat.gcd_rec,Nat.gcd_comm],ae,(rB.ext hW).ext x2,r3,(hx.trans hW).trans x2,rfl,rfl⟩
     .have hvb:(((v0:Nat):Int)==0)=false:=by rw [beq_eq_false_iff_ne];omega
      obtain ⟨A1,B1,hO⟩: ∃A1 B1,pF A B ev u0 v0 u1 v1 A1 B1:=by
       rcases HO.o with h|h
       .exact absurd h hv0
       .exact h
      have aej:=hO.less hv0 (Nat.pos_of_ne_zero hB)
      have SJ:A1<=A:=by
       have h5:=hO.ea;have h6:A1<=v1*A1:=Nat.le_mul_of_pos_left _ hO.pos;omega
      cases ev with
      |true=>
       have q1:B*v0<=A*u0:=by have:=hO.fst;simp only [if_true]at this;rw [Nat.mul_comm B,Nat.mul_comm A];omega
       have q2:A*u1<=B*v1:=by have:=hO.snd;simp only [if_true]at this;rw [Nat.mul_comm B,Nat.mul_comm A];omega
       have e1:A*u0-B*v0=A1:=by have:=hO.fst;simp only [if_true]at this;rw [Nat.mul_comm B,Nat.mul_comm A];omega
       have e2:B*v1-A*u1=B1:=by have:=hO.snd;simp only [if_true]at this;rw [Nat.mul_comm B,Nat.mul_comm A];omega
       have hc1:=λV (hV:Ext wr V)=>n_ V _ _ _ _ _ _ _ _ u0 v0 (rA.ext hV) (rB.ext hV) ae ae k0 k2 q1;have hc2:=λV (hV:Ext wr V)=>n_ V _ _ _ _ _ _ _ _ v1 u1 (rB.ext hV) (rA.ext hV) ae ae k3 k1 q2;rw [e1]at hc1;rw [e2]at hc2;have abl:=dt SJ;have zm:=af hc1;have Fe:=af hc2
       clear hc1 hc2 q1 q2 e1 e2;have gC:True:=trivial;go_wp2_with fail
       go_region_held3 (λw'=>w'.cell? ⟨w1.heap.size,0,none⟩=some (.int .u64 u0)/\w'.cell? ⟨w1.heap.size,1,none⟩=some (.int .u64 u1)/\w'.cell? ⟨w1.heap.size,2,none⟩=some (.int .u64 v0)/\w'.cell? ⟨w1.heap.size,3,none⟩=some (.int .u64 v1)) (first|exact ⟨b0,b1,b2,b3⟩|(simp [go_sem,b0,b1,b2,b3])) (first
        |(go_at_call 261;have _t:=gC;refine (zm.o _ (hW.drew)).mono ?_;rintro e w2 ⟨a2,c2,rfl,r2,f2,x2⟩;clear gC _t;obtain ⟨⟨b0,b1,b2,b3,b4⟩,f0,f1,Xe,f3,f4⟩:=Iq A0 (ah.drew.trans x2))
        |(go_at_call 261;refine (Fe.o _ (hW.drew.trans x2)).mono ?_;rintro e w3 ⟨a3,c3,rfl,r3,f3',x3⟩;obtain ⟨⟨b0,b1,b2,b3,b4⟩,f0,f1,Xe,f3,f4⟩:=Iq A0 ((ah.drew.trans x2).trans x3)))
       all_goals go_wp2_with fail
       all_goals go_roundg (A1+B1)
       all_goals (first
        |(case measure=>omega)
        |(case rel=>exact ⟨A1,B1,a2,a3,c2,c3,cG,hO.le,hO.gcd.trans SG.o,ae,r2.ext x3,r3,((hx.trans hW).drew.trans x2).trans x3,rfl,rfl⟩))
      |false=>
       have q1:A*u0<=B*v0:=by have:=hO.fst;simp only [Bool.false_eq_true,if_false]at this;rw [Nat.mul_comm B,Nat.mul_comm A];omega
       have q2:B*v1<=A*u1:=by have:=hO.snd;simp only [Bool.false_eq_true,if_false]at this;rw [Nat.mul_comm B,Nat.mul_comm A];omega
       have e1:B*v0-A*u0=A1:=by have:=hO.fst;simp only [Bool.false_eq_true,if_false]at this;rw [Nat.mul_comm B,Nat.mul_comm A];omega
       have e2:A*u1-B*v1=B1:=by have:=hO.snd;simp only [Bool.false_eq_true,if_false]at this;rw [Nat.mul_comm B,Nat.mul_comm A];omega
       have hc1:=λV (hV:Ext wr V)=>n_ V _ _ _ _ _ _ _ _ v0 u0 (rB.ext hV) (rA.ext hV) ae ae k2 k0 q1;have hc2:=λV (hV:Ext wr V)=>n_ V _ _ _ _ _ _ _ _ u1 v1 (rA.ext hV) (rB.ext hV) ae ae k1 k3 q2;rw [e1]at hc1;rw [e2]at hc2;have abl:=dt SJ;have zm:=af hc1;have Fe:=af hc2
       clear hc1 hc2 q1 q2 e1 e2;have gC:True:=trivial;go_wp2_with fail
       go_region_held3 (λw'=>w'.cell? ⟨w1.heap.size,0,none⟩=some (.int .u64 u0)/\w'.cell? ⟨w1.heap.size,1,none⟩=some (.int .u64 u1)/\w'.cell? ⟨w1.heap.size,2,none⟩=some (.int .u64 v0)/\w'.cell? ⟨w1.heap.size,3,none⟩=some (.int .u64 v1)) (first|exact ⟨b0,b1,b2,b3⟩|(simp [go_sem,b0,b1,b2,b3])) (first
        |(go_at_call 261;have _t:=gC;refine (zm.o _ (hW.drew)).mono ?_;rintro e w2 ⟨a2,c2,rfl,r2,f2,x2⟩;clear gC _t;obtain ⟨⟨b0,b1,b2,b3,b4⟩,f0,f1,Xe,f3,f4⟩:=Iq A0 (ah.drew.trans x2))
        |(go_at_call 261;refine (Fe.o _ (hW.drew.trans x2)).mono ?_;rintro e w3 ⟨a3,c3,rfl,r3,f3',x3⟩;obtain ⟨⟨b0,b1,b2,b3,b4⟩,f0,f1,Xe,f3,f4⟩:=Iq A0 ((ah.drew.trans x2).trans x3)))
       all_goals go_wp2_with fail
       all_goals go_roundg (A1+B1)
       all_goals (first
        |(case measure=>omega)
        |(case rel=>exact ⟨A1,B1,a2,a3,c2,c3,cG,hO.le,hO.gcd.trans SG.o,ae,r2.ext x3,r3,((hx.trans hW).drew.trans x2).trans x3,rfl,rfl⟩))
