/- Texts of the proof. -/
import Derived.Test.YtbnamicbjaaelaaGreatCg2
import Derived.Test.YtbnamicbjaaelaaGreatCg3
set_option linter.all false
set_option maxHeartbeats 4000000
set_option maxRecDepth 100000
namespace Go.Proofs.YtbnamicbjaaelaaGreat
open Go.Proofs.Tryz
section
variable{U V lx ly p u2 v1 v2 top d rest:Nat}
theorem pD (hV:V=ly+p*(v2+4294967296*v1)):d*V=d*ly+p*(d*v2+4294967296*(d*v1)):=by
 rw [hV,Nat.mul_add,Nat.mul_left_comm d p,Nat.mul_add d,Nat.mul_left_comm d 4294967296]
theorem EU (hU:U=lx+p*(u2+4294967296*top)) (hV:V=ly+p*(v2+4294967296*v1)) (hx:lx<p)
 (hd:d*v1+rest=top) (Pw:rest*4294967296+u2<d*v2):U<d*V:=by
 rw [pD hV];have h3:=Nat.mul_le_mul_left p (show u2+4294967296*top+1<=d*v2+4294967296*(d*v1) by omega);rw [Nat.mul_add p _ 1]at h3;omega
theorem EX (hU:U=lx+p*(u2+4294967296*top)) (hV:V=ly+p*(v2+4294967296*v1)) (hy:ly<p) (h1:1<=v1)
 (hb:d<4294967296) (hd:d*v1+rest=top) (hle:d*v2<=rest*4294967296+u2):d*V<U+V:=by
 have e:=pD (d:=d) hV;have h3:=Nat.mul_le_mul_left p (show d*v2+4294967296*(d*v1)<=u2+4294967296*top by omega);have h4:d*ly<=4294967295*p:=Nat.mul_le_mul ae ae;have h5:=Nat.mul_le_mul_left p (show 4294967296*1<=v2+4294967296*v1 by omega);omega
theorem uE (hU:U=lx+p*(u2+4294967296*top)) (hV:V=ly+p*(v2+4294967296*v1)) (hy:ly<p) (h2:v2<4294967296)
 (hb:d<=4294967296) (hd:d*v1+rest=top) (hr:4294967296<=rest):d*V<=U:=by
 have e:=pD (d:=d) hV;have h4:d*ly<=4294967296*p:=Nat.mul_le_mul hb ae;have h6:d*v2<=4294967296*4294967295:=Nat.mul_le_mul hb ae;have h3:=Nat.mul_le_mul_left p (show d*v2+4294967296*(d*v1)+4294967296<=u2+4294967296*top by omega);rw [Nat.mul_add p _ 4294967296]at h3;omega
theorem CA (hU:U=lx+p*(u2+4294967296*top)) (hV:V=ly+p*(v2+4294967296*v1)) (hx:lx<p) (hy:ly<p) (Yl:u2<4294967296) (h2:v2<4294967296)
 (hn:2147483648<=v1) (hlt:U<V*4294967296):U/V<=top/v1/\top/v1<=4294967297:=by
 have Ni:0<V:=by
  have:=Nat.mul_le_mul_left p (show 1<=v2+4294967296*v1 by omega);omega
 constructor
 .rw [Nat.le_div_iff_mul_le ae]
  have h0:=Nat.div_mul_le_self U V;generalize U/V=Q at*;have e:=pD (d:=Q) hV;apply Nat.le_of_lt_succ;apply Nat.lt_of_not_le;intro hc;have h3:=Nat.mul_le_mul_left p (show u2+4294967296*top+1<=Q*v2+4294967296*(Q*v1) by omega);rw [Nat.mul_add p _ 1]at h3;omega
 .apply Nat.le_of_lt_succ
  rw [Nat.div_lt_iff_lt_mul ae];apply Nat.lt_of_not_le;intro hc;have h3:=Nat.mul_le_mul_left p (show(v2+1+4294967296*v1)*4294967296<=u2+4294967296*top by omega);rw [<-Nat.mul_assoc,Nat.add_right_comm v2 1,Nat.mul_add p _ 1]at h3;omega
end
theorem GP {U V d:Nat} (h0:0<V) (h:U<d*V):U/V+1<=d:=by
 have:=(Nat.div_lt_iff_lt_mul h0).2 h;omega
theorem Ik {U V d:Nat} (h0:0<V) (h:d*V<U+V):d<=U/V+1:=by
 apply Nat.le_of_lt_succ;have h1:=Nat.lt_div_mul_add h0 (a:=U);apply Nat.lt_of_not_le;intro hc;have h2:=Nat.mul_le_mul_right V hc;have h3:(U/V+1).succ*V=U/V*V+V+V:=by rw [Nat.succ_mul,Nat.add_mul,Nat.one_mul]
 omega
theorem AD {U V d:Nat} (h0:0<V) (h:d*V<=U):d<=U/V:=(Nat.le_div_iff_mul_le h0).2 h
theorem CB {X Y r:List Nat} {i d c z c':Nat} (h1:i<X.length) (h2:i<Y.length) (hr:r.length=i)
 (hv:val r+d*val (Y.take i)=val (X.take i)+4294967296^i*c) (hz:z+(d*limb Y i+c)=limb X i+4294967296*c'):
 val (r++ [z])+d*val (Y.take (i+1))=val (X.take (i+1))+4294967296^(i+1)*c':=by
 rw [cO,eJ,hr,bT h1,bT h2,Nat.pow_succ,Nat.mul_assoc,Nat.mul_add d,Nat.mul_left_comm d];generalize 4294967296^i=p at*
 have e2:p*z+(p*(d*limb Y i)+p*c)=p*limb X i+p*(4294967296*c'):=by
  rw [<-Nat.mul_add,<-Nat.mul_add,<-Nat.mul_add,hz]
 omega
theorem Il {U V d R:Nat} (h0:0<V) (h:R+d*V=U) (hq:U/V<=d):d=U/V/\R=U % V:=by
 have h1:d<=U/V:=AD h0 ae;have e:d=U/V:=Nat.le_antisymm h1 hq;refine ⟨e,?_⟩;have:=Nat.div_add_mod' U V;rw [<-e]at this;omega
theorem EZ {U V d R P T c:Nat} (h0:0<V) (hlt:U<d*V) (hq:d<=U/V+1) (hV:V<=P) (hR:R+d*V=U+P*4294967296) (hT:T+P*c=R+V) (ht:T<P):
 d=U/V+1/\c=4294967296/\T=U % V:=by
 have h1:=GP h0 hlt;have e:d=U/V+1:=ae;have h2:=Nat.div_add_mod' U V;have h3:=Nat.mod_lt U h0;have h4:d*V=U/V*V+V:=by rw [e,Nat.add_mul,Nat.one_mul]
 have h5:T+P*c=U % V+P*4294967296:=ae;have hP:0<P:=ae
 have hc:c=4294967296:=by
  apply Nat.le_antisymm
  .apply Nat.le_of_not_lt;intro h
   have:=Nat.mul_le_mul_left P (show 4294967296+1<=c from h);rw [Nat.mul_add,Nat.mul_one]at this;omega
  .apply Nat.le_of_not_lt;intro h
   have:=Nat.mul_le_mul_left P (show c+1<=4294967296 from h);rw [Nat.mul_add,Nat.mul_one]at this;omega
 subst hc;exact ⟨e,rfl,ae⟩
theorem CC {X:List Nat} {t:Nat} (h:X.length=t+3):val X=val (X.take t)+4294967296^t*(limb X t+4294967296*(limb X (t+1)+4294967296*limb X (t+2))):=by
 rw [iE X t ae,eO (show t+1<X.length by omega),eO (show t+1+1<X.length by omega),List.drop_of_length_le ae];simp [val]
theorem Kv {X:List Nat} {t:Nat} (h:X.length=t+2):val X=val (X.take t)+4294967296^t*(limb X t+4294967296*limb X (t+1)):=by
 rw [iE X t ae,eO (show t+1<X.length by omega),List.drop_of_length_le ae];simp [val]
theorem gH {X:List Nat} (hs:Small X) {t:Nat} (h:t<=X.length):val (X.take t)<4294967296^t:=by
 have:=jt (hs.take t);rwa [List.length_take,Nat.min_eq_left h]at this
open Go.RowKit
def Kw (k n:Nat) (w:World) (e:Ending) (w':World):Prop:= ∃r,e= .returned (.slice (some ⟨w.heap.size,0,none⟩) k k)/\r.length=k/\val r=n/\Small r/\aT w' w.heap.size 142 (dr r)/\Ext w w'
theorem Ky (q x s:Nat) (hq:q<2^s) (hx:x<4294967296) (hs:s<32):bits BinOp.or IntKind.u64 (q:Int) (IntKind.u64.wrap ((x:Int)*2^s))=((q+x*2^s:Nat):Int)/\q+x*2^s<4294967296*2^s/\4294967296*2^s<=9223372036854775808:=by
 have h1:2^s<=2^31:=Nat.pow_le_pow_right aq ae;have h2:(x+1)*2^s<=4294967296*2^s:=Nat.mul_le_mul_right _ hx;rw [Nat.add_mul,Nat.one_mul]at h2;have h3:4294967296*2^s<=4294967296*2^31:=Nat.mul_le_mul_left _ h1;have e:((x:Int)*2^s)=((x*2^s:Nat):Int):=by push_cast;rfl
 refine ⟨?_,ae,ae⟩;rw [e,IntKind.wrap_u64]
 have e2:((x*2^s:Nat):Int) % 18446744073709551616=((x*2^s:Nat):Int):=by
  generalize x*2^s=z at*;omega
 rw [e2,u64_or_nat _ _ ae ae];have:=Nat.shiftLeft_add_eq_or_of_lt hq x;rw [Nat.shiftLeft_eq]at this;rw [Nat.or_comm,<-this,Nat.add_comm]
theorem Kz {l r:List Nat} {j q s:Nat} (hj:j<l.length) (hr:r.length=j) (hv:val r+4294967296^j*q=val (l.take j)*2^s):
 val (r++ [(q+limb l j*2^s) % 4294967296])+4294967296^(j+1)*((q+limb l j*2^s)/4294967296)=val (l.take (j+1))*2^s:=by
 rw [cO,eJ,hr,bT hj,Nat.pow_succ,Nat.mul_assoc,Nat.add_mul,Nat.mul_assoc];generalize 4294967296^j=p at*
 have e2:p*((q+limb l j*2^s) % 4294967296)+p*(4294967296*((q+limb l j*2^s)/4294967296))=p*q+p*(limb l j*2^s):=by
  rw [<-Nat.mul_add,Nat.mod_add_div,Nat.mul_add]
 omega
theorem uF (w:World) (a:Option Addr) (k c n s:Nat) (ha:Raw w a k c n) (h1:k<1000000000) (hs:s<32):
 Calls prog 203 #[.slice a k c,.int .i64 (s:Nat)] w (Kw (k+1) (n*2^s) w):=by
 obtain ⟨l,hl,hv,hA⟩:=ha;have s1:=hA.small;have HL:=ah hl;have HV:=ah hv
 clear hl hv;go_enter func203,ntmps203
 go_wp2_with (at_make;refine bS _ rfl _ _ 88 rfl 142 (.int .u32 0) 4 underlying88 Tryz.info_u32 rfl _ _ (k+1) rfl rfl bf bf ae ae ?_;intro w1 eL hx1 hz1)
 go_loopw [6,15] (λcy i wr=> ∃(j q:Nat) (r:List Nat),j<=k/\Hid (r.length=j)/\Small r/\q<2^s/\Hid (val r+4294967296^j*q=val (l.take j)*2^s)/\Hid (aT wr w.heap.size 142 (dr (r++List.replicate (k+1-j) 0)))/\Ext w wr/\cy= .int .u64 q/\i= .int .i64 j) (λ_ i _=>k-(intOf i).toNat)
 case atStart=>exact ⟨0,0,[],aZ,rfl,Small.nil,Nat.two_pow_pos _,(show _=_ by simp [val]),by have:=eL.o;rw [cW]at this;exact this,hx1,rfl,rfl⟩
 case round=>
  obtain ⟨j,q,r,hj,hr,hsm,hq,hval,dx,dJ,rfl,rfl⟩:=hrel;by_cases h0:j<k
  .obtain ⟨p,o,rfl⟩:=hA.at (by rw [HL.o];omega)
   have hc:=(hA.ext dJ).cellAt j (by rw [HL.o];omega);have hx:=bQ s1 j
   have hst:wr.cell? ⟨w.heap.size,j,none⟩=some (.int .u32 0):=by
    rw [dx.o.cell,eF _ _ (by simp [hr.o];omega)];simp [limb,hr.o,show 0<k+1-j from by omega]
   have qL:=dx.o.frozen j
   have jD: ∀(x:Nat) (v:Int),v=(x:Int)->aT (wr.setCell ⟨w.heap.size,j,none⟩ (.int .u32 v)) w.heap.size 142 (dr ((r++ [x])++List.replicate (k+1-(j+1)) 0)):=by
    intro x v hv;subst hv;have:=dx.o.set j (.int .u32 (x:Nat));rw [fP,List.set_append_right _ _ (by rw [hr.o];exact bY),hr.o,Nat.sub_self,show k+1-j=(k+1-(j+1))+1 from ae,List.replicate_succ,List.set_cons_zero]at this;rw [List.append_assoc];exact this
   have HN:=ah jD;clear jD
   obtain ⟨e1,e2,e3⟩:=Ky q (limb l j) s hq hx hs;have E1:=ah e1;clear e1
   go_wp2
   rw [E1.o];refine ⟨⟨j+1,(q+limb l j*2^s)/4294967296,r++ [(q+limb l j*2^s) % 4294967296],ae,(show _=_ by simp [hr.o]),hsm.append (Small.one (Nat.mod_lt _ aq)),?_,Kz (by rw [HL.o];omega) hr.o hval.o,HN.o _ _ ?_,dJ.setCell bY _,?_,bf⟩,?_⟩
   .rw [Nat.div_lt_iff_lt_mul aq,Nat.mul_comm (2^s)];exact e2
   .rw [Int.natCast_emod];rfl
   .rw [Int.natCast_ediv];rfl
   .simp [intOf];omega
  .obtain rfl:j=k:=ae
   have hst:wr.cell? ⟨w.heap.size,j,none⟩=some (.int .u32 0):=by
    rw [dx.o.cell,eF _ _ (by simp [hr.o])];simp [limb,hr.o]
   have qL:=dx.o.frozen j;have h2s:2^s<=2^31:=Nat.pow_le_pow_right aq ae;have S8:q<2147483648:=ae;have jD:=dx.o.set j (.int .u32 (q:Nat));rw [fP,List.set_append_right _ _ (by rw [hr.o];exact bY),hr.o,Nat.sub_self,show j+1-j=1 from by omega]at jD;simp only [List.replicate_succ,List.replicate_zero,List.set_cons_zero]at jD;have HN:=ah jD;clear jD
   clear h2s;go_wp2
   go_ret;refine ⟨r++ [q],rfl,by simp [hr.o],?_,hsm.append (Small.one ae),HN.o,dJ.setCell bY _⟩;rw [cO,eJ,hr.o,hval.o,List.take_of_length_le (by rw [HL.o];exact bY),HV.o]
theorem AE (l:List Nat) (j:Nat): ∃D,val (l.drop j)=limb l j+4294967296*limb l (j+1)+18446744073709551616*D:=by
 by_cases h:j<l.length
 .rw [eO h]
  by_cases h':j+1<l.length
  .rw [eO h'];exact ⟨val (l.drop (j+1+1)),ae⟩
  .rw [List.drop_of_length_le ae,fU (i:=j+1) ae];exact ⟨0,by simp [val]⟩
 .rw [List.drop_of_length_le ae,fU (i:=j+1) ae,fU (i:=j) ae];exact ⟨0,by simp [val]⟩
theorem KA {l r:List Nat} {j s:Nat} (hsm:Small l) (hs:s<32) (hj:j<l.length) (hr:r.length=j) (hv:val r=val l/2^s % 4294967296^j):
 val (r++ [(limb l j+4294967296*limb l (j+1))/2^s % 4294967296])=val l/2^s % 4294967296^(j+1):=by
 rw [cO,eJ,hr,hv,Nat.mod_pow_succ];congr 2
 rw [Nat.div_div_eq_div_mul,Nat.mul_comm (2^s),<-Nat.div_div_eq_div_mul]
 have e1:val l/4294967296^j=val (l.drop j):=by
  have e:=jS l j ae;have hlt:=gH hsm (t:=j) ae;rw [e,Nat.add_mul_div_left _ _ (Nat.pow_pos aq),Nat.div_eq_of_lt hlt,Nat.zero_add]
 obtain ⟨D,hD⟩:=AE l j
 have e2:18446744073709551616*D=2^s*(4294967296*(2^(32-s)*D)):=by
  rw [Nat.mul_left_comm 4294967296,<-Nat.mul_assoc,<-Nat.pow_add,show s+(32-s)=32 from by omega];omega
 rw [e1,hD,e2,Nat.add_mul_div_left _ _ (Nat.two_pow_pos _),Nat.add_mul_mod_self_left]
theorem wJ (w:World) (a:Option Addr) (k c n s:Nat) (ha:Raw w a k c n) (hs:s<32):
 Calls prog 205 #[.slice a k c,.int .i64 (s:Nat)] w (wH (n/2^s) w):=by
 have ha':=ha.cut;have la:=ha'.le;by_cases h0:n=0
 .subst h0
  go_enter func205,ntmps205
  go_wp2_with fail
  refine (cM _ _ _ _ _ ha).mono ?_;rintro e w' ⟨rfl,rfl⟩;rw [oC];go_wp2
  go_ret2
  rw [Nat.zero_div];exact ⟨none,0,rfl,Raw.nil _,Fr.none _,ar⟩
 .have hp:=gM.2 (Nat.pos_of_ne_zero h0)
  obtain ⟨l,hl,hv,hA⟩:=ha';obtain ⟨p,o,rfl⟩:=hA.at ae;have s1:=hA.small;have HL:=ah hl;have HV:=ah hv
  clear hl hv;have dS: ¬c=0:=ae;go_enter func205,ntmps205
  go_wp2_with fail
  refine (cM _ _ _ _ _ ha).mono ?_;rintro e w' ⟨rfl,rfl⟩;go_wp2_with (at_make;refine bS _ rfl _ _ 88 rfl 142 (.int .u32 0) 4 underlying88 Tryz.info_u32 rfl _ _ (len n) rfl rfl bf bf ae ae ?_;intro w1 eL hx1 hz1)
  rw [show s/32=0 from ae,show((s:Int) % 32)=(s:Int)from ae,Nat.add_zero,Nat.sub_zero];go_loopw [31] (λi wr=> ∃(j:Nat) (r:List Nat),j<=len n/\Hid (r.length=j)/\Small r/\Hid (val r=val l/2^s % 4294967296^j)/\Hid (aT wr w.heap.size 142 (dr (r++List.replicate (len n-j) 0)))/\Ext w wr/\i= .int .i64 j) (λi _=>len n-(intOf i).toNat)
  case atStart=>exact ⟨0,[],aZ,rfl,Small.nil,(show _=_ by simp [val,Nat.mod_one]),by have:=eL.o;rw [cW]at this;exact this,hx1,rfl⟩
  case round=>
   obtain ⟨j,r,hj,hr,hsm,hval,dx,dJ,rfl⟩:=hrel;by_cases h1:j<len n
   .have hc:=(hA.ext dJ).cellAt j (by rw [HL.o];omega)
    have hx:=bQ s1 j
    have hst:wr.cell? ⟨w.heap.size,j,none⟩=some (.int .u32 0):=by
     rw [dx.o.cell,eF _ _ (by simp [hr.o];omega)];simp [limb,hr.o,show 0<len n-j from by omega]
    have qL:=dx.o.frozen j
    have jD: ∀(x:Nat) (v:Int),v=(x:Int)->aT (wr.setCell ⟨w.heap.size,j,none⟩ (.int .u32 v)) w.heap.size 142 (dr ((r++ [x])++List.replicate (len n-(j+1)) 0)):=by
     intro x v hv;subst hv;have:=dx.o.set j (.int .u32 (x:Nat));rw [fP,List.set_append_right _ _ (by rw [hr.o];exact bY),hr.o,Nat.sub_self,show len n-j=(len n-(j+1))+1 from ae,List.replicate_succ,List.set_cons_zero]at this;rw [List.append_assoc];exact this
    have HN:=ah jD;clear jD
    have HS:=ah (KA s1 hs (by rw [HL.o];omega) hr.o hval.o);by_cases h2:j+1<len n
    .have hc':=(hA.ext dJ).cellAt (j+1) (by rw [HL.o];omega)
     have hy:=bQ s1 (j+1);have E1:=ah (Ps (limb l j) (limb l (j+1)) hx hy);go_wp2
     rw [E1.o];refine ⟨⟨j+1,_,ae,(show _=_ by simp [hr.o]),hsm.append (Small.one (Nat.mod_lt _ aq)),HS,HN.o _ _ ?_,dJ.setCell bY _,bf⟩,?_⟩
     .rw [Int.natCast_emod,Int.natCast_ediv,Int.natCast_pow];rfl
     .simp [intOf];omega
    .have E1:=ah (fU (l:=l) (i:=j+1) (by rw [HL.o];omega))
     go_wp2
     refine ⟨⟨j+1,_,ae,(show _=_ by simp [hr.o]),hsm.append (Small.one (Nat.mod_lt _ aq)),HS,HN.o _ _ ?_,dJ.setCell bY _,bf⟩,?_⟩
     .rw [E1.o,Nat.mul_zero,Nat.add_zero,Int.natCast_emod,Int.natCast_ediv,Int.natCast_pow];rfl
     .simp [intOf];omega
   .obtain rfl:j=len n:=ae
    have mD:Raw wr (some ⟨w.heap.size,0,none⟩) (len n) (len n) (n/2^s):=by
     have h3:=dx.o;rw [Nat.sub_self,List.replicate_zero,List.append_nil]at h3;have h4:=h3.limbs hsm (by rw [hr.o];omega);rw [hr.o]at h4;refine ⟨r,hr.o,?_,h4⟩;rw [hval.o,HV.o,Nat.mod_eq_of_lt (Nat.lt_of_le_of_lt (Nat.div_le_self _ _) (iq n))]
    have HR:=ah mD;clear mD
    go_wp2_with (go_at_call 167;refine (cM _ _ _ _ _ HR.o).mono ?_;rintro e w' ⟨rfl,rfl⟩)
    go_ret2
    exact ⟨_,_,rfl,HR.o.cut,Fr.some bY,dJ⟩
theorem ql {w:World} {b i:Nat} {T:TypeId} {A X C:List Nat} (h:aT w b T (dr (A++X++C))) (hi:i<X.length):w.cell? ⟨b,A.length+i,none⟩=some (.int .u32 (limb X i:Nat)):=by
 rw [h.cell,eF _ _ (by simp;omega)];congr 3
 unfold limb;rw [List.append_assoc,List.getElem?_append_right ae,Nat.add_sub_cancel_left,List.getElem?_append_left hi]
theorem q9 {w:World} {b i:Nat} {T:TypeId} {A X C:List Nat} (h:aT w b T (dr (A++X++C))) (hi:i<X.length) (x:Nat) (v:Int) (hv:v=(x:Int)):aT (w.setCell ⟨b,A.length+i,none⟩ (.int .u32 v)) b T (dr (A++X.set i x++C)):=by
 subst hv;have:=h.set (A.length+i) (.int .u32 (x:Nat));rw [fP,List.append_assoc,List.set_append_right _ _ ae,Nat.add_sub_cancel_left,List.set_append_left _ _ hi,<-List.append_assoc]at this;exact this
def T_ (b:Nat) (A C:List Nat) (n U V:Nat) (w:World) (e:Ending) (w':World):Prop:=
 ∃r,e= .returned (.int .u32 (U/V:Nat))/\r.length=n+1/\Small r/\val r=U % V/\aT w' b 142 (dr (A++r++C))/\Touch b (b+1) w w'
theorem E4 (x y d c:Nat) (hx:x<4294967296) (hy:y<4294967296) (hd:d<4294967296) (hc:c<4294967296):
 ∃z c':Nat,z+(d*y+c)=x+4294967296*c'/\z<4294967296/\c'<4294967296/\IntKind.u64.wrap ((x:Int)-((d:Int)*(y:Int)+(c:Int)) % 4294967296) % 4294967296=(z:Int)/\
  IntKind.u64.wrap (((d:Int)*(y:Int)+(c:Int))/4294967296+IntKind.u64.wrap ((x:Int)-((d:Int)*(y:Int)+(c:Int)) % 4294967296)/9223372036854775808)=(c':Int):=by
 have hp:d*y<=4294967295*4294967295:=Nat.mul_le_mul ae ae;rw [<-Int.natCast_mul,IntKind.wrap_u64,IntKind.wrap_u64];generalize d*y=t at*;by_cases h:x<(t+c) % 4294967296
 .exact ⟨x+4294967296-(t+c) % 4294967296,(t+c)/4294967296+1,ae,ae,ae,ae,ae⟩
 .exact ⟨x-(t+c) % 4294967296,(t+c)/4294967296,ae,ae,ae,ae,ae⟩
theorem rf {r X:List Nat} {i:Nat} (hr:r.length=i) (hi:i<X.length) (z:Nat):(r++X.drop i).set i z=(r++ [z])++X.drop (i+1):=by
 rw [List.set_append_right _ _ ae,hr,Nat.sub_self,List.drop_eq_getElem_cons hi,List.set_cons_zero,List.append_assoc];rfl
theorem rh {r X:List Nat} {i:Nat} (hr:r.length=i) (j:Nat) (h:i<=j):limb (r++X.drop i) j=limb X j:=by
 unfold limb;rw [List.getElem?_append_right ae,hr,List.getElem?_drop];congr 2;omega
theorem yB (w:World) (bu bv cu cv n:Nat) (A X C Y:List Nat) (hne:bv≠bu) (hU:aT w bu 142 (dr (A++X++C))) (hX:X.length=n+1) (sX:Small X) (hcu:n+1<=cu) (agt:cu<=1099511627776)
 (hV:eU w (some ⟨bv,0,none⟩) cv Y) (hY:Y.length=n) (h2:2<=n) (ZO:2147483648<=limb Y (n-1)) (hlt:val X<val Y*4294967296):
 Calls prog 204 #[.slice (some ⟨bu,A.length,none⟩) ((n+1:Nat)) cu,.slice (some ⟨bv,0,none⟩) n cv] w (T_ bu A C n (val X) (val Y) w):=by
 have sY:=hV.small;have lv:=hV.le;have lv2:=hV.short;have cx2:=ql hU (i:=n) ae;have cx1:=ql hU (i:=n-1) ae;have cx0:=ql hU (i:=n-2) ae;have cy1:=hV.cellAt (n-1) ae;have cy0:=hV.cellAt (n-2) ae;rw [Nat.zero_add]at cy0 cy1;have bx2:=bQ sX n;have bx1:=bQ sX (n-1);have bx0:=bQ sX (n-2);have by1:=bQ sY (n-1);have Ua:=bQ sY (n-2);have HT:=ah (Cu (limb X n) (limb X (n-1)) bx2 bx1);have dy1:(((limb Y (n-1):Nat):Int)==0)=false:=by rw [beq_eq_false_iff_ne];omega
 have ZP:((limb Y (n-1):Nat):Int)≠0:=ae;have HX:=ah hX;have HY:=ah hY;clear hX hY
 have HU:=ah hU;clear hU
 go_enter func204,ntmps204
 go_wp2_with fail
 go_quiet (fail)
 go_wp2_with fail
 rw [HT.o];have Ub:limb X (n-1)+4294967296*limb X n<18446744073709551616:=ae;generalize Pw:limb X (n-1)+4294967296*limb X n=top at Ub⊢;have HGT:=ah Pw;clear Pw HT
 have g0:IntKind.i64.wrap ((n:Int)-1)=(n:Int)-1:=IntWalk.i64_in _ ae;have g1:(0:Int)<=(n:Int)-1:=ae;have g2:(n:Int)-1<(n:Int):=ae;have g3:((n:Int)-1).toNat=n-1:=ae;have g4:(1:Int)<=(n:Int):=ae;have g5:1<=n:=ae;go_quiet (fail)
 clear g0 g1 g2 g3
 have ZQ:val X=val (X.take (n-2))+4294967296^(n-2)*(limb X (n-2)+4294967296*top):=by
  have:=CC (X:=X) (t:=n-2) (by rw [HX.o];omega);rw [show n-2+1=n-1 from ae,show n-2+2=n from ae,HGT.o]at this;exact this
 have ZR:val Y=val (Y.take (n-2))+4294967296^(n-2)*(limb Y (n-2)+4294967296*limb Y (n-1)):=by
  have:=Kv (X:=Y) (t:=n-2) (by rw [HY.o];omega);rw [show n-2+1=n-1 from by omega]at this;exact this
 have lx:=gH sX (t:=n-2) (by rw [HX.o];omega);have ly:=gH sY (t:=n-2) (by rw [HY.o];omega)
 have Ni:0<val Y:=by
  have:=Nat.mul_le_mul_left (4294967296^(n-2)) (show 1<=limb Y (n-2)+4294967296*limb Y (n-1) by omega);omega
 obtain ⟨jI,hf2⟩:=CA ZQ ZR lx ly bx0 Ua ZO hlt;have Uc:=ah ZQ;have QJ:=ah ZR;have Hlx:=ah lx;have Ym:=ah ly
 clear ZQ ZR lx ly;have qY:val X/val Y<4294967296:=by rw [Nat.div_lt_iff_lt_mul Ni,Nat.mul_comm];exact hlt
 have AG:=Nat.mod_lt top (show 0<limb Y (n-1) by omega);have Px:=Nat.div_add_mod' top (limb Y (n-1))
 have e7:IntKind.u64.wrap ((top:Int)/((limb Y (n-1):Nat):Int))=((top/limb Y (n-1):Nat):Int):=by
  rw [<-Int.natCast_ediv,IntKind.wrap_u64];generalize top/limb Y (n-1)=z at*;omega
 have e8:((top:Int) % ((limb Y (n-1):Nat):Int))=((top % limb Y (n-1):Nat):Int):=by rw [Int.natCast_emod]
 rw [e7,e8];clear e7 e8;generalize top/limb Y (n-1)=d0 at*;generalize top % limb Y (n-1)=r0 at*;have vk:=ah Px;clear Px
 go_upto_block 0 with fail
 go_cut [7] (λd wx=> ∃dd:Nat,dd<4294967296/\val X/val Y<=dd/\dd<=val X/val Y+1/\Quiet w wx/\d= .int .u64 dd)
 case first=>
  go_wp2
  go_loopw [7,8] (λd r wr=> ∃(dd rr:Nat),Hid (dd*limb Y (n-1)+rr=top)/\rr<4294967296/\dd<=4294967297/\Hid (val X/val Y<=dd)/\Quiet w wr/\d= .int .u64 dd/\r= .int .u64 rr) (λd _ _=>(intOf d).toNat)
  case atStart=>exact ⟨d0,r0,vk,ae,hf2,jI,(Quiet.refl _).drewN _|>.drewN _,rfl,rfl⟩
  case round=>
   obtain ⟨dd,rr,hdr,Nj,hdd,hqd,hq,rfl,rfl⟩:=hrel;obtain ⟨nq2,rfl⟩:=hq;by_cases hB:dd<4294967296
   .have b1:(((dd:Int)/4294967296) !=0)=false:=by simp;omega
    have hor:=Cu rr (limb X (n-2)) Nj bx0;have Cg:dd*limb Y (n-2)<=4294967295*4294967295:=Nat.mul_le_mul ae ae
    have ri:IntKind.u64.wrap ((dd:Int)*((limb Y (n-2):Nat):Int))=(dd:Int)*((limb Y (n-2):Nat):Int):=by
     rw [<-Int.natCast_mul,IntKind.wrap_u64];omega
    have g0:IntKind.i64.wrap ((n:Int)-2)=(n:Int)-2:=IntWalk.i64_in _ ae;have g1:(0:Int)<=(n:Int)-2:=ae;have g2:(n:Int)-2<(n:Int):=ae;have g3:((n:Int)-2).toNat=n-2:=ae;have g6:(2:Int)<=(n:Int):=ae;by_cases Pw:rr*4294967296+limb X (n-2)<dd*limb Y (n-2)
    .have b2:decide (((limb X (n-2):Nat):Int)+4294967296*(rr:Int)<(dd:Int)*((limb Y (n-2):Nat):Int))=true:=by
      rw [<-Int.natCast_mul];simp;omega
     have Im:1<=dd:=Nat.pos_of_ne_zero (λh=>by rw [h,Nat.zero_mul]at Pw;omega);have Ud:val X/val Y+1<=dd:=GP Ni (EU Uc.o QJ.o Hlx.o hdr.o Pw)
     have hmul:(dd-1)*limb Y (n-1)+(rr+limb Y (n-1))=top:=by
      have h9:=hdr.o
      have h8:(dd-1)*limb Y (n-1)+limb Y (n-1)=dd*limb Y (n-1):=by
       rw [<-Nat.succ_mul];congr 1;omega
      omega
     have HM:=ah hmul;clear hmul
     have Ue:=ah Ud;clear Ud
     have dw:((dd:Int)-1)=((dd-1:Nat):Int):=ae;have DW:=ah dw;clear dw
     by_cases hbr:rr+limb Y (n-1)<4294967296
     .have b3:((((rr:Int)+((limb Y (n-1):Nat):Int))/4294967296) !=0)=false:=by simp;omega
      go_wp2_with fail
      go_quiet (fail)
      go_wp2_with fail
      rw [DW.o]
      go_roundw
      case rel=>exact ⟨dd-1,rr+limb Y (n-1),HM,hbr,ae,(show _<=_ by have:=Ue.o;omega),⟨_,rfl⟩,rfl,bf⟩
      case measure=>simp [intOf];omega
     .have b3:((((rr:Int)+((limb Y (n-1):Nat):Int))/4294967296) !=0)=true:=by simp;omega
      go_wp2_with fail
      go_quiet (fail)
      go_wp2_with fail
      rw [DW.o]
      go_meet
      have h1:=uE Uc.o QJ.o Ym.o Ua (d:=dd-1) ae HM.o ae;have h2:=AD Ni h1;have h3:=Ue.o;exact ⟨dd-1,ae,ae,ae,⟨_,rfl⟩,rfl⟩
    .have b2:decide (((limb X (n-2):Nat):Int)+4294967296*(rr:Int)<(dd:Int)*((limb Y (n-2):Nat):Int))=false:=by
      rw [<-Int.natCast_mul];simp;omega
     go_wp2_with fail
     go_quiet (fail)
     go_wp2
     go_meet
     have h1:=EX Uc.o QJ.o Ym.o ae hB hdr.o ae;exact ⟨dd,hB,hqd.o,Ik Ni h1,((Quiet.refl _).drewN _).drewN _,rfl⟩
   .have b1:(((dd:Int)/4294967296) !=0)=true:=by simp;omega
    have Im:1<=dd:=ae;have Ud:val X/val Y+1<=dd:=ae
    have hmul:(dd-1)*limb Y (n-1)+(rr+limb Y (n-1))=top:=by
     have h9:=hdr.o
     have h8:(dd-1)*limb Y (n-1)+limb Y (n-1)=dd*limb Y (n-1):=by
      rw [<-Nat.succ_mul];congr 1;omega
     omega
    have HM:=ah hmul;clear hmul
    have Ue:=ah Ud;clear Ud
    have dw:((dd:Int)-1)=((dd-1:Nat):Int):=ae;have DW:=ah dw;clear dw
    by_cases hbr:rr+limb Y (n-1)<4294967296
    .have b3:((((rr:Int)+((limb Y (n-1):Nat):Int))/4294967296) !=0)=false:=by simp;omega
     go_wp2_with fail
     go_quiet (fail)
     go_wp2_with fail
     rw [DW.o]
     go_roundw
     case rel=>exact ⟨dd-1,rr+limb Y (n-1),HM,hbr,ae,(show _<=_ by have:=Ue.o;omega),⟨_,rfl⟩,rfl,bf⟩
     case measure=>simp [intOf];omega
    .have b3:((((rr:Int)+((limb Y (n-1):Nat):Int))/4294967296) !=0)=true:=by simp;omega
     go_wp2_with fail
     go_quiet (fail)
     go_wp2_with fail
     rw [DW.o]
     go_meet
     have h1:=uE Uc.o QJ.o Ym.o Ua (d:=dd-1) ae HM.o ae;have h2:=AD Ni h1;have h3:=Ue.o;exact ⟨dd-1,ae,ae,ae,⟨_,rfl⟩,rfl⟩
 case rest=>
  obtain ⟨dd,hdB,js,Nk,hq,rfl⟩:=hcut;have nX:=ah js;have pY:=ah Nk;clear js Nk
  obtain ⟨nq3,rfl⟩:=hq;clear cx2 cx1 cx0 cy1 cy0 dy1 ZP g4 g5 bx0 bx1 Ua by1 jI hf2 AG vk HGT Uc QJ Hlx Ym;go_wp2
  go_loopw [9,86] (λcy i wr=> ∃(j c:Nat) (r:List Nat),j<=n/\Hid (r.length=j)/\Small r/\c<4294967296/\Hid (val r+dd*val (Y.take j)=val (X.take j)+4294967296^j*c)/\Hid (aT wr bu 142 (dr (A++(r++X.drop j)++C)))/\Touch bu (bu+1) w wr/\cy= .int .u64 c/\i= .int .i64 j) (λ_ i _=>n-(intOf i).toNat)
  case atStart=>exact ⟨0,0,[],aZ,rfl,Small.nil,ae,(show _=_ by simp [val]),(show aT _ _ _ _ by simpa using HU.o.ext (ar.drewN _)),(Touch.refl _ _ _).drewN _,rfl,rfl⟩
  case round=>
   obtain ⟨j,c,r,hj,hr,hsm,hc,hval,dx,yC,rfl,rfl⟩:=hrel;by_cases h0:j<n
   .have ZT:=(hV.bt yC (λx e=>by cases e;simp only;omega)).cellAt j (by rw [HY.o];omega)
    rw [Nat.zero_add]at ZT;have EC:=ql dx.o (i:=j) (by simp [hr.o,HX.o];omega);rw [rh hr.o j bY]at EC;have qL:=dx.o.frozen (A.length+j);have hx:=bQ sX j;have hy:=bQ sY j;have mG:dd*limb Y j<=4294967295*4294967295:=Nat.mul_le_mul ae ae;have ES:(dd:Int)*((limb Y j:Nat):Int)<=18446744065119617025:=by rw [<-Int.natCast_mul];omega
    have ZM:0<=(dd:Int)*((limb Y j:Nat):Int):=by rw [<-Int.natCast_mul];omega
    obtain ⟨z,c',e0,hz,hc',e1,e2⟩:=E4 (limb X j) (limb Y j) dd c hx hy hdB hc;have E0:=ah e0;have E1:=ah e1;have E2:=ah e2;clear e0 e1 e2
    have HN:=ah (λv hv=>q9 dx.o (i:=j) (by simp [hr.o,HX.o];omega) z v hv);go_wp2_with fail
    rw [E1.o,E2.o];refine ⟨⟨j+1,c',r++ [z],ae,(show _=_ by simp [hr.o]),hsm.append (Small.one hz),hc',CB (by rw [HX.o];omega) (by rw [HY.o];omega) hr.o hval.o E0.o,?_,yC.setCell bY (Nat.lt_succ_self _) _,rfl,bf⟩,?_⟩
    .have:=HN.o _ rfl
     rw [rf hr.o (by rw [HX.o];omega)]at this;exact this
    .simp [intOf];omega
   .obtain rfl:j=n:=ae
    have EC:=ql dx.o (i:=j) (by simp [hr.o,HX.o]);rw [rh hr.o j bY]at EC;have qL:=dx.o.frozen (A.length+j);have tY:Y.take j=Y:=List.take_of_length_le (by rw [HY.o];exact bY);have eX:=bT (l:=X) (k:=j) (by rw [HX.o];omega);rw [List.take_of_length_le (by rw [HX.o];exact bY)]at eX;have hv2:=hval.o;rw [tY]at hv2;have kX:=ah eX;have Io:=ah hv2;have HTY:=ah tY
    clear eX hv2 tY
    have rj: ∀z:Nat,(r++X.drop j).set j z=r++ [z]:=by
     intro z;rw [rf hr.o (by rw [HX.o];omega),List.drop_of_length_le (by rw [HX.o];exact bY),List.append_nil]
    have gl:=ah rj;clear rj
    by_cases QH:c<=limb X j
    .have e3:IntKind.u64.wrap (((limb X j:Nat):Int)-(c:Int))=((limb X j-c:Nat):Int):=by rw [IntKind.wrap_u64];omega
     have Yn:limb X j-c<4294967296:=ae
     have lL:dd=val X/val Y/\val (r++ [limb X j-c])=val X % val Y:=by
      refine Il Ni ?_ nX.o;have h5:=kX.o;have h6:=Io.o;rw [cO,eJ,hr.o];have h7:4294967296^j*(limb X j-c)+4294967296^j*c=4294967296^j*limb X j:=by rw [<-Nat.mul_add,Nat.sub_add_cancel QH]
      omega
     have HF:=ah lL;clear lL
     have HN:=ah (λv hv=>q9 dx.o (i:=j) (by simp [hr.o,HX.o]) (limb X j-c) v hv);generalize limb X j-c=D at*;have b5:(((D:Int)/9223372036854775808)==0)=true:=by simp;omega
     have E3:=e3;go_wp2
     go_ret;refine ⟨r++ [D],by rw [<-HF.o.1];rfl,by simp [hr.o],hsm.append (Small.one Yn),HF.o.2,?_,yC.setCell bY (Nat.lt_succ_self _) _⟩;have:=HN.o _ rfl;rw [gl.o]at this;exact this
    .have agC:limb X j<c:=ae
     have e3:IntKind.u64.wrap (((limb X j:Nat):Int)-(c:Int))=((limb X j+18446744073709551616-c:Nat):Int):=by rw [IntKind.wrap_u64];omega
     have Yn:limb X j+4294967296-c<4294967296:=ae;have hDm:(limb X j+18446744073709551616-c) % 4294967296=limb X j+4294967296-c:=ae;have hDl:9223372036854775808<=limb X j+18446744073709551616-c/\limb X j+18446744073709551616-c<18446744073709551616:=ae
     have hR:val (r++ [limb X j+4294967296-c])+dd*val Y=val X+4294967296^j*4294967296:=by
      have h5:=kX.o;have h6:=Io.o;rw [cO,eJ,hr.o];have h7:4294967296^j*(limb X j+4294967296-c)+4294967296^j*c=4294967296^j*limb X j+4294967296^j*4294967296:=by rw [<-Nat.mul_add,<-Nat.mul_add,Nat.sub_add_cancel ae]
      omega
     have E5:val X<dd*val Y:=by
      have h8:=jt (hsm.append (Small.one Yn));rw [List.length_append,hr.o,List.length_singleton,Nat.pow_succ]at h8;omega
     have HR:=ah hR;have AH:=ah E5;clear hR E5
     have HN:=ah (λv hv=>q9 dx.o (i:=j) (by simp [hr.o,HX.o]) (limb X j+4294967296-c) v hv);have Im:1<=dd:=Nat.pos_of_ne_zero (λh=>by have:=AH.o;rw [h,Nat.zero_mul]at this;omega);generalize limb X j+18446744073709551616-c=D at*;generalize limb X j+4294967296-c=D' at*;have b5:(((D:Int)/9223372036854775808)==0)=false:=by simp;omega
     have e4:(D:Int) % 4294967296=(D':Int):=ae;have vk:=ah hDm;clear hDm
     have E3:=e3;go_wp2_with fail
     have hW0:Hid (aT (wr.setCell ⟨bu,A.length+j,none⟩ (.int .u32 (D':Nat))) bu 142 (dr (A++(r++ [D'])++C))):=by
      have:=HN.o _ rfl;rw [gl.o]at this;exact this
     have hT0:Touch bu (bu+1) w (wr.setCell ⟨bu,A.length+j,none⟩ (.int .u32 (D':Nat))):=yC.setCell bY (Nat.lt_succ_self _) _;have sX1:=hsm.append (Small.one Yn);have KB:(r++ [D']).length=j+1:=by simp [hr.o]
     have eC:=ah KB;have Py:limb (r++ [D']) j=D':=by unfold limb;rw [List.getElem?_append_right (by rw [hr.o];exact bY),hr.o,Nat.sub_self];rfl
     have HLA:=ah Py;clear Py KB
     generalize wr.setCell ⟨bu,A.length+j,none⟩ (.int .u32 (D':Nat))=w4 at*;clear HN gl dx yC EC qL b5 e4 e3 E3 vk kX Io;generalize r++ [D']=X1 at*;go_loopw [9,136] (λcy i wr=> ∃(t c:Nat) (s:List Nat),t<=j/\Hid (s.length=t)/\Small s/\c<=1/\Hid (val s+4294967296^t*c=val (X1.take t)+val (Y.take t))/\Hid (aT wr bu 142 (dr (A++(s++X1.drop t)++C)))/\Touch bu (bu+1) w wr/\cy= .int .u64 c/\i= .int .i64 t) (λ_ i _=>j-(intOf i).toNat)
     case atStart=>exact ⟨0,0,[],aZ,rfl,Small.nil,ae,(show _=_ by simp [val]),(show aT _ _ _ _ by simpa using hW0.o),hT0,rfl,rfl⟩
     case round=>
      obtain ⟨t,c1,s,ht,hs,ZU,hc1,hvs,Ip,QK,rfl,rfl⟩:=hrel;by_cases h1:t<j
      .have ZT:=(hV.bt QK (λx e=>by cases e;simp only;omega)).cellAt t (by rw [HY.o];omega)
       rw [Nat.zero_add]at ZT;have EC:=ql Ip.o (i:=t) (by simp [hs.o,eC.o];omega);rw [rh hs.o t bY]at EC;have qL:=Ip.o.frozen (A.length+t);have hx:=bQ sX1 t;have hy:=bQ sY t;have HN:=ah (λv hv=>q9 Ip.o (i:=t) (by simp [hs.o,eC.o];omega) ((c1+limb X1 t+limb Y t) % 4294967296) v hv);have HA:=ah (oH (L:=X1) (M:=Y) (cy:=c1) (i:=t) (by rw [eC.o];omega) hs.o hvs.o (by rw [HY.o];omega));go_wp2_with fail
       refine ⟨⟨t+1,(c1+limb X1 t+limb Y t)/4294967296,s++ [(c1+limb X1 t+limb Y t) % 4294967296],ae,(show _=_ by simp [hs.o]),ZU.append (Small.one (Nat.mod_lt _ aq)),ae,HA,?_,QK.setCell bY (Nat.lt_succ_self _) _,?_,bf⟩,?_⟩
       .have:=HN.o _ (show((c1:Int)+(((limb X1 t:Nat):Int)+((limb Y t:Nat):Int))) % 4294967296=_ by omega)
        rw [rf hs.o (by rw [eC.o];omega)]at this;exact this
       .congr 1;omega
       .simp [intOf];omega
      .obtain rfl:t=j:=ae
       have EC:=ql Ip.o (i:=t) (by simp [hs.o,eC.o]);rw [rh hs.o t bY,HLA.o]at EC;have qL:=Ip.o.frozen (A.length+t);have hvY:=hvs.o;rw [HTY.o]at hvY;have eX:=bT (l:=X1) (k:=t) (by rw [eC.o];omega);rw [List.take_of_length_le (by rw [eC.o];exact bY),HLA.o]at eX;have Ch:=jt ZU;rw [hs.o]at Ch;have Uf:=jt sY;rw [HY.o]at Uf;have lL:=EZ (P:=4294967296^t) (T:=val s) (c:=D'+c1) Ni AH.o pY.o ae HR.o (by rw [Nat.mul_add];omega) Ch;obtain ⟨f1,f2,f3⟩:=lL;have F1:=ah f1;have F3:=ah f3;clear f1 f3 hvY eX Ch Uf
       have e6:IntKind.u32.wrap ((D':Int)+(c1:Int))=0:=by
        rw [show(D':Int)+(c1:Int)=4294967296 from by omega];decide
       have QL:(D':Int)+(c1:Int)=4294967296:=ae;have ZV:=ah QL;have Iq:=ah f2;clear QL f2
       have HN:=ah (λv hv=>q9 Ip.o (i:=t) (by simp [hs.o,eC.o]) 0 v hv);go_wp2
       go_ret;refine ⟨s++ [0],cL (bA F1.o),by simp [hs.o],ZU.append (Small.one aq),?_,?_,QK.setCell bY (Nat.lt_succ_self _) _⟩
       .rw [cO,eJ,Nat.mul_zero,Nat.add_zero,F3.o]
       .have:=HN.o _ rfl
        rw [rf hs.o (by rw [eC.o];omega),List.drop_of_length_le (by rw [eC.o];exact bY),List.append_nil]at this;exact this
def lz (x:Nat):Nat:=32-Lib.bitLen x
theorem yD: ∀x:Nat,0<x->x<2^64->1<=Lib.bitLen x/\2^(Lib.bitLen x-1)<=x/\x<2^Lib.bitLen x:=by
 intro x;induction x using Nat.strongRecOn with
 |ind x ih=>
  intro h0 h;rw [Lib.bitLen_half x ae h];by_cases h1:x/2=0
  .rw [h1,show Lib.bitLen 0=0 from rfl];simp;omega
  .obtain ⟨a,b,c⟩:=ih (x/2) ae ae ae
   refine ⟨ae,?_,?_⟩
   .obtain ⟨t,e⟩: ∃t,Lib.bitLen (x/2)=t+1:=⟨Lib.bitLen (x/2)-1,ae⟩
    rw [e]at b⊢;rw [show 1+(t+1)-1=t+1 from ae,Nat.pow_succ];rw [show t+1-1=t from by omega]at b;omega
   .rw [Nat.add_comm,Nat.pow_succ];omega
theorem zo {x:Nat} (h0:0<x) (h:x<4294967296):lz x<32/\2147483648<=x*2^lz x/\x*2^lz x<4294967296:=by
 obtain ⟨a,b,c⟩:=yD x h0 ae;have hl:=Lib.bitLen_le x 32 aq ae;unfold lz;refine ⟨ae,?_,?_⟩
 .have:=Nat.mul_le_mul_right (2^(32-Lib.bitLen x)) b
  rw [<-Nat.pow_add,show Lib.bitLen x-1+(32-Lib.bitLen x)=31 from by omega]at this;omega
 .have:=Nat.mul_lt_mul_of_pos_right c (Nat.two_pow_pos (32-Lib.bitLen x))
  rw [<-Nat.pow_add,show Lib.bitLen x+(32-Lib.bitLen x)=32 from by omega]at this;omega
theorem kD (x:Nat) (w:World) (h0:0<x) (h1:x<4294967296):
 Calls prog 201 #[.int .u32 (x:Nat)] w λe w'=>e= .returned (.int .i64 (lz x:Nat))/\w=w':=by
 have l:=Lib.bitLen_le x 32 aq ae;have e8:(32-(Lib.bitLen x:Int)+9223372036854775808) % 18446744073709551616-9223372036854775808=((lz x:Nat):Int):=by unfold lz;omega
 have E8:=ah e8;clear e8
 have hL:=ET (x:Int) w ae ae;rw [Int.toNat_natCast]at hL;go_enter func201,ntmps201
 go_wp2_with (go_at_call 186;refine hL.mono ?_;rintro e w' ⟨rfl,rfl⟩)
 go_ret;exact ⟨cL (by rw [<-E8.o];omega),rfl⟩
theorem CD {k lo top s m:Nat} (hm:m=lo+4294967296^k*top) (E9:lo<4294967296^k) (hs:s<32) (z2:2147483648<=top*2^s) (z3:top*2^s<4294967296):
 m*2^s<4294967296^(k+1)/\2147483648*4294967296^k<=m*2^s:=by
 have e3:(4294967296:Nat)=2^(32-s)*2^s:=by rw [<-Nat.pow_add,show 32-s+s=32 from by omega]
 have h1:top<2^(32-s):=by
  apply Nat.lt_of_not_le;intro h
  have:=Nat.mul_le_mul_right (2^s) h;omega
 have h2:=Nat.mul_le_mul_right (2^s) (show top+1<=2^(32-s)from h1);rw [<-e3]at h2;generalize hP:4294967296^k=P at*;constructor
 .have h3:m<P*(top+1):=by rw [Nat.mul_add];omega
  have h4:=Nat.mul_lt_mul_of_pos_right h3 (Nat.two_pow_pos s);have h5:=Nat.mul_le_mul_left P h2;rw [Nat.pow_succ,hP];rw [Nat.mul_assoc]at h4;omega
 .have h4:=Nat.mul_le_mul_right (2^s) (show P*top<=m by omega)
  have h5:=Nat.mul_le_mul_left P z2;rw [Nat.mul_assoc]at h4;rw [Nat.mul_comm];omega
theorem CE {L:List Nat} {j K V:Nat} (sL:Small L) (hL:j+K+1<=L.length) (hV:V<4294967296^K) (hlt:val (L.drop (j+1))<V):
 L=L.take j++(L.drop j).take (K+1)++L.drop (j+K+1)/\((L.drop j).take (K+1)).length=K+1/\Small ((L.drop j).take (K+1))/\val ((L.drop j).take (K+1))<V*4294967296/\val (L.drop (j+K+1))=0:=by
 have e1:L.drop j=(L.drop j).take (K+1)++L.drop (j+K+1):=by
  rw [show j+K+1=j+(K+1)from ae,<-List.drop_drop,List.take_append_drop]
 have h1:=eO (l:=L) (k:=j) ae;have h2:=bQ sL j
 have h3:val (L.drop j)<V*4294967296:=by
  have:=Nat.mul_le_mul_right 4294967296 (show val (L.drop (j+1))+1<=V from hlt);omega
 have h4:V*4294967296<=4294967296^(K+1):=by
  rw [Nat.pow_succ];exact Nat.mul_le_mul_right _ ae
 have h5:=congrArg val e1;have h7:((L.drop j).take (K+1)).length=K+1:=by rw [List.length_take,List.length_drop];omega
 rw [cO,h7]at h5;refine ⟨by rw [List.append_assoc,<-e1,List.take_append_drop],h7,(sL.drop j).take _,ae,?_⟩;apply Nat.eq_zero_of_not_pos;intro h8
 have:=Nat.mul_le_mul_left (4294967296^(K+1)) (show 1<=val (L.drop (j+K+1))from h8);omega
theorem Ir {L r Q:List Nat} {j K V N:Nat} (hL:j+K+1<=L.length) (S9:L=L.take j++(L.drop j).take (K+1)++L.drop (j+K+1)) (hX:((L.drop j).take (K+1)).length=K+1) (h0:val (L.drop (j+K+1))=0) (hr:r.length=K+1)
 (E_:val r=val ((L.drop j).take (K+1)) % V) (hQ:j<Q.length) (hv:val (Q.drop (j+1))*V*4294967296^(j+1)+val L=N):
 val ((Q.set j (val ((L.drop j).take (K+1))/V)).drop j)*V*4294967296^j+val (L.take j++r++L.drop (j+K+1))=N/\val ((L.take j++r++L.drop (j+K+1)).drop j)=val r:=by
 have hA:(L.take j).length=j:=by rw [List.length_take];omega
 constructor
 .rw [qW hQ]
  have e1:=congrArg val S9;have x1:val ((L.drop j).take (K+1)++L.drop (j+K+1))=val ((L.drop j).take (K+1)):=by rw [cO,h0,Nat.mul_zero,Nat.add_zero]
  have x2:val (r++L.drop (j+K+1))=val r:=by rw [cO,h0,Nat.mul_zero,Nat.add_zero]
  rw [List.append_assoc,cO,hA,x1]at e1;rw [List.append_assoc,cO,hA,x2];have e2:=Nat.div_add_mod' (val ((L.drop j).take (K+1))) V;rw [<-E_]at e2;generalize val ((L.drop j).take (K+1))=x at*;generalize x/V=d at e2⊢;rw [<-hv,e1,Nat.pow_succ,<-e2];generalize 4294967296^j=p;generalize val (Q.drop (j+1))=q;rw [Nat.add_mul,Nat.add_mul,Nat.mul_add p,Nat.mul_comm p (d*V)]
  have:4294967296*q*V*p=q*V*(p*4294967296):=by
   rw [Nat.mul_assoc 4294967296 q V,Nat.mul_assoc 4294967296,Nat.mul_comm 4294967296,Nat.mul_assoc (q*V)]
  omega
 .rw [List.append_assoc,List.drop_append_of_le_length ae,List.drop_of_length_le ae,List.nil_append,cO,h0,Nat.mul_zero,Nat.add_zero]
theorem KC {q V R n m s:Nat} (h:q*V+R=n*2^s) (hV:V=m*2^s) (hR:R<V) (_hm:0<m):q=n/m/\R=n % m*2^s:=by
 have Ni:0<V:=ae;have h1:q=n*2^s/V:=by rw [<-h,Nat.mul_comm,Nat.mul_add_div Ni,Nat.div_eq_of_lt hR,Nat.add_zero]
 have h2:R=n*2^s % V:=by rw [<-h,Nat.mul_comm,Nat.mul_add_mod,Nat.mod_eq_of_lt hR]
 refine ⟨?_,?_⟩
 .rw [h1,hV,Nat.mul_div_mul_right _ _ (Nat.two_pow_pos s)]
 .rw [h2,hV,Nat.mul_mod_mul_right]
theorem Fa {L:List Nat} {dg K V n s:Nat} (hL:L.length=dg+(K+1)) (hn:n<4294967296^(dg+K)) (hs:s<32) (hv:val L=n*2^s) (hV:2147483648*4294967296^K<=V):val (L.drop dg)<V:=by
 have h1:=jS L dg ae;have h2:=Nat.mul_lt_mul_of_pos_right hn (Nat.two_pow_pos s);have h3:2^s<=2^31:=Nat.pow_le_pow_right aq ae;rw [Nat.pow_add]at h2;generalize 4294967296^dg=p at*;apply Nat.lt_of_lt_of_le _ hV;apply Nat.lt_of_not_le;intro h
 have h4:=Nat.mul_le_mul_left p h;have h5:=Nat.mul_le_mul_left (p*4294967296^K) h3;have h6:p*(2147483648*4294967296^K)=p*4294967296^K*2^31:=by rw [Nat.mul_comm 2147483648,Nat.mul_assoc]
 omega
theorem KE {w:World} {b i:Nat} {T:TypeId} {P:List Nat} (h:aT w b T (dr P)) (x:Nat) (v:Int) (hv:v=(x:Int)):aT (w.setCell ⟨b,i,none⟩ (.int .u32 v)) b T (dr (P.set i x)):=by
 subst hv;have:=h.set i (.int .u32 (x:Nat));rwa [fP]at this
theorem Touch.ext1 {w0 w w':World} {b:Nat} (h:Ext w0 w) (t:Touch b (b+1) w w') (hb:w0.heap.size<=b):Ext w0 w':=
 ⟨⟨t.os.trans h.below.os,t.tape.trans h.below.tape,t.output.trans h.below.output,by rw [t.size];exact h.below.size,λk hk=>(t.block k (Or.inl ae)).trans (h.below.block k hk)⟩,Nat.le_trans h.drawn t.drawn⟩
theorem aT.KF {w w':World} {b b':Nat} {T:TypeId} {vs:List Value} (h:aT w b' T vs) (t:Touch b (b+1) w w') (hb:b'≠b):aT w' b' T vs:=by
 unfold aT;rw [t.block b' ae];exact h
theorem wK (w:World) (a b:Option Addr) (c c' n m:Nat) (ha:Raw w a (len n) c n) (hb:Raw w b (len m) c' m) (h2:2<=len m) (hle:m<=n) (hs:len n<1000000000):
 Calls prog 194 #[.slice a (len n) c,.slice b (len m) c'] w (GN (n/m) (n % m) w):=by
 have wI:=df hle;have la:=ha.le;have lb:=hb.le;obtain ⟨l,hl,hv,hB⟩:=id hb;obtain ⟨pb,ob,rfl⟩:=hB.at ae;have hc:=hB.cellAt (len m-1) ae;have hx:=bQ hB.small (len m-1);have ht:=lQ hB.small ae (by rw [hv,hl]);rw [hl]at ht;obtain ⟨z1,z2,z3⟩:=zo (x:=limb l (len m-1)) ae hx;have NP:=kD (limb l (len m-1)) w ae hx
 have Yo:m=val (l.take (len m-1))+4294967296^(len m-1)*limb l (len m-1):=by
  have:=bT (l:=l) (k:=len m-1) ae;rw [show len m-1+1=l.length from ae,List.take_length,hv]at this;exact this
 have KG:=gH hB.small (t:=len m-1) ae;have HM:=ah Yo;have HL:=ah hl;have HV:=ah hv;have KH:=ah KG
 clear Yo hl hv KG;generalize hS:lz (limb l (len m-1))=s at z1 z2 z3 NP;clear hS;go_enter func194,ntmps194
 go_wp2_with fail
 refine NP.mono ?_;rintro e w' ⟨rfl,rfl⟩;go_wp2_with fail
 refine (uF _ _ _ _ _ _ hb ae z1).mono ?_;rintro e w1 ⟨Y',rfl,hY',Yp,ZW,ZY,hx1⟩;go_wp2_with fail
 refine (uF _ _ _ _ _ _ (ha.ext hx1) hs z1).mono ?_;rintro e w2 ⟨X0,rfl,hX0,ZZ,sX0,Z7,hx2⟩;have Yq: ∃dg,len n+1=dg+len m:=⟨len n+1-len m,ae⟩;obtain ⟨dg,Yq⟩:=Yq;go_wp2_with (at_make;refine bS _ rfl _ _ 88 rfl 142 (.int .u32 0) 4 underlying88 Tryz.info_u32 rfl _ _ dg rfl rfl ae ae ae ae ?_;intro w3 hw3 hx3 hz3)
 obtain ⟨Pz,Z8⟩:=CD HM.o KH.o z1 z2 z3;rw [show len m-1+1=len m from by omega]at Pz;have Z9:val (Y'.take (len m))=m*2^s:=by rw [kU ZW ae (by rw [Yp];exact cI.2 Pz),Yp]
 have Uf:(Y'.take (len m)).length=len m:=by rw [List.length_take];omega
 have Ug:2147483648<=limb (Y'.take (len m)) (len m-1):=by
  have h5:=bT (l:=Y'.take (len m)) (k:=len m-1) ae;rw [show len m-1+1=(Y'.take (len m)).length from ae,List.take_length,Z9]at h5;have h6:=gH (ZW.take (len m)) (t:=len m-1) ae;apply Nat.le_of_lt_succ;apply Nat.lt_of_not_le;intro h7
  have h8:=Nat.mul_le_mul_left (4294967296^(len m-1)) (show limb (Y'.take (len m)) (len m-1)+1<=2147483648 by omega);rw [Nat.mul_add,Nat.mul_one,Nat.mul_comm _ 2147483648]at h8;omega
 have hst:=Fa (L:=X0) (dg:=dg) (K:=len m-1) (n:=n) (s:=s) (V:=m*2^s) ae (by rw [show dg+(len m-1)=len n from by omega];exact iq n) z1 ZZ Z8;have agG:=ZY.lt;have agH:=Z7.lt;have a1:aT w3 w.heap.size 142 (dr Y'):=(ZY.ext hx2).ext hx3;have a2:aT w3 w1.heap.size 142 (dr X0):=Z7.ext hx3;have a3:aT w3 w2.heap.size 142 (dr (List.replicate dg 0)):=by have:=hw3.o;rwa [cW]at this
 have hE:Ext w w3:=(hx1.trans hx2).trans hx3;have HYT:=ah Z9;have HYL:=ah Uf;have Z_:=ah hY';have HYV:=ah Yp;have tK:=ah hX0;have GQ:=ah ZZ
 have HDG:=ah Yq;have A1:=ah a1;have A2:=ah a2;have A3:=ah a3
 have S_:=ah Pz;have HST:=ah hst
 clear Z9 Uf hY' Yp hX0 ZZ Yq a1 a2 a3 Pz Z8 hst hw3 hz3 ZY Z7 NP hc;have J4:dg<=1000000000:=bA HDG.o;go_loopw [36] (λi wr=> ∃(k t:Nat) (Q L:List Nat),Hid (k+t=dg)/\Hid (Q.length=dg)/\Small Q/\Hid (L.length=dg+len m)/\Small L/\Hid (val (Q.drop t)*(m*2^s)*4294967296^t+val L=n*2^s)/\Hid (val (L.drop t)<m*2^s)/\Hid (aT wr w.heap.size 142 (dr Y'))/\Hid (aT wr w1.heap.size 142 (dr L))/\Hid (aT wr w2.heap.size 142 (dr Q))/\Ext w wr/\i= .int .i64 k) (λi _=>dg-(intOf i).toNat)
 case atStart=>
  refine ⟨0,dg,List.replicate dg 0,X0,(show _=_ by omega),(show _=_ by simp),Small.replicate _,(show _=_ by have:=tK.o;have:=HDG.o;omega),sX0,?_,HST,A1,A2,A3,hE,rfl⟩;show _=_;rw [List.drop_of_length_le aG,GQ.o];simp [val]
 case round=>
  obtain ⟨k,t,Q,L,S',hQ,sQ,hL,sL,hval,hlt,b1,b2,b3,dJ,rfl⟩:=hrel;by_cases h0:k<dg
  .have hj: ∃j,t=j+1:=⟨t-1,bA S'.o⟩
   obtain ⟨j,rfl⟩:=hj;have hkj:(dg:Int)-1-(k:Int)=(j:Int):=bA S'.o;have hjb:j<dg:=bA S'.o;obtain ⟨Yr,Z',w3e,w4e,w5e⟩:=CE (L:=L) (j:=j) (K:=len m) (V:=m*2^s) sL (by rw [hL.o];omega) S_.o hlt.o;have hAl:(L.take j).length=j:=by rw [List.length_take,hL.o];omega
   have ED:aT wr w1.heap.size 142 (dr (L.take j++(L.drop j).take (len m+1)++L.drop (j+len m+1))):=by rw [<-Yr];exact b2.o
   have QM:=yB wr w1.heap.size w.heap.size (dg+len m-j) (len m+1) (len m) (L.take j) ((L.drop j).take (len m+1)) (L.drop (j+len m+1)) (Y'.take (len m)) ae ED Z' w3e ae ae
    ((b1.o.limbs ZW (by rw [Z_.o];omega)).take (len m) (by rw [Z_.o];omega)|>λh=>by rw [Z_.o]at h;exact h) HYL.o h2 Ug (by rw [HYT.o];exact w4e)
   rw [hAl,HYT.o]at QM
   have hqb:val ((L.drop j).take (len m+1))/(m*2^s)<4294967296:=by
    rw [Nat.div_lt_iff_lt_mul ae,Nat.mul_comm];exact w4e
   have hVp:0<m*2^s:=ae;have hstep:=λr (hr:r.length=len m+1) E_=>Ir (L:=L) (r:=r) (Q:=Q) (j:=j) (K:=len m) (V:=m*2^s) (N:=n*2^s) (by rw [hL.o];omega) Yr Z' w5e hr E_ (by rw [hQ.o];omega) hval.o;have HS:=ah hstep;have HD:=ah QM;have Ta:=ah Yr;have QN:=ah hAl
   clear hstep QM Yr Z' w3e w4e w5e hAl ED;have Uh:wr.cell? ⟨w2.heap.size,j,none⟩=some (.int .u32 (limb Q j:Nat)):=by rw [b3.o.cell,eF _ _ (by rw [hQ.o];omega)]
   go_wp2_with fail
   rw [show j+len m+1-j=len m+1 from by omega]
   (with_reducible refine HD.o.mono ?_)
   rintro e w5 ⟨r,rfl,hr,sr,E_,dx,yC⟩;have hs5:w5.cell? ⟨w2.heap.size,j,none⟩=some (.int .u32 (limb Q j:Nat)):=by rw [wC yC (p:=⟨w2.heap.size,j,none⟩) (by simp only;omega)];exact Uh
   have c1:=b1.o.KF yC ae;have c3:=b3.o.KF yC ae;have QO:=c3.frozen j;obtain ⟨k1,k2⟩:=HS.o r hr E_;have K1:=ah k1;have K2:=ah k2;have C1:=ah c1;have HR:=ah hr;have GR:=ah E_
   have C3:=ah (λv hv=>KE (i:=j) c3 (val ((L.drop j).take (len m+1))/(m*2^s)) v hv);have aad:=ah dx;have eP:=Touch.ext1 dJ yC hx1.size;clear k1 k2 c1 c3 Uh hr E_ dx HD HS;go_wp2_with fail
   refine ⟨⟨k+1,j,Q.set j (val ((L.drop j).take (len m+1))/(m*2^s)),L.take j++r++L.drop (j+len m+1),(show _=_ by have:=S'.o;omega),(show _=_ by simp [hQ.o]),sQ.set _ _ hqb,?_,((sL.take j).append sr).append (sL.drop _),K1,?_,(show aT _ _ _ _ from C1.o.other _ _ (by simp only;omega)),(show aT _ _ _ _ from aad.o.other _ _ (by simp only;omega)),C3.o _ rfl,eP.setCell (by simp only;omega) _,bf⟩,?_⟩
   .show _=_
    rw [List.length_append,List.length_append,QN.o,HR.o,List.length_drop,hL.o];omega
   .show _<_
    rw [K2.o,GR.o];exact Nat.mod_lt _ hVp
   .simp [intOf];omega
  .obtain rfl:k=dg:=bA S'.o
   obtain rfl:t=0:=bA S'.o;have tB:=hval.o;rw [List.drop_zero,Nat.pow_zero,Nat.mul_one]at tB;have zn:=hlt.o;rw [List.drop_zero]at zn;obtain ⟨q1,q2⟩:=KC tB rfl zn (gM.1 ae);have hLk:val (L.take (len m))=val L:=kU sL (by rw [hL.o];omega) (cI.2 (Nat.lt_trans zn S_.o))
   have Ui:Raw wr (some ⟨w1.heap.size,0,none⟩) (len m) (k+len m) (n % m*2^s):=by
    have h3:=(b2.o.limbs sL (by rw [hL.o];omega)).take (len m) (by rw [hL.o];omega);rw [hL.o]at h3;exact ⟨L.take (len m),by rw [List.length_take,hL.o];omega,by rw [hLk,q2],h3⟩
   have KI:Raw wr (some ⟨w2.heap.size,0,none⟩) k k (n/m):=by
    have h3:=b3.o.limbs sQ (by rw [hQ.o];omega);rw [hQ.o]at h3;exact ⟨Q,hQ.o,q1,h3⟩
   have RR:=ah Ui;have RQ:=ah KI
   clear tB zn q1 q2 hLk Ui KI;go_wp2_with fail
   refine (wJ _ _ _ _ _ _ RR.o z1).mono ?_;rintro e w6 ⟨a6,c6,rfl,Tb,Uj,jA⟩;rw [Nat.mul_div_cancel _ (Nat.two_pow_pos s)]at Tb⊢;go_wp2_with fail
   refine (cM _ _ _ _ _ (RQ.o.ext jA)).mono ?_;rintro e w7 ⟨rfl,rfl⟩;go_wp2_with fail
   go_ret2
   exact ⟨_,_,a6,c6,rfl,(RQ.o.ext jA).cut,Fr.some ae,Tb,Uj.mono dJ.size,dJ.trans jA⟩
theorem kY (w:World) (a b:Option Addr) (k k' c c' n m:Nat) (ha:Raw w a k c n) (hb:Raw w b k' c' m) (hm:0<m) (hs:len n<1000000000):
 Calls prog 172 #[.slice a k c,.slice b k' c'] w (pC (n/m) (n % m) w):=by
 have ha':=ha.cut;have hb':=hb.cut;have pm:=gM.2 hm;have QF:(((len m:Nat):Int)==0)=false:=by rw [beq_eq_false_iff_ne];omega
 go_enter func172,ntmps172
 go_wp2_with fail
 refine (cM _ _ _ _ _ ha).mono ?_;rintro e w' ⟨rfl,rfl⟩;go_wp2_with fail
 refine (cM _ _ _ _ _ hb).mono ?_;rintro e w' ⟨rfl,rfl⟩;go_wp2_with fail
 refine (eu _ _ _ _ _ _ _ _ _ ha' hb').mono ?_;rintro e w0 ⟨rfl,qY⟩;have ha0:=ha'.ext qY.ext;have hb0:=hb'.ext qY.ext;by_cases hlt:n<m
 .have tI:fV n m= -1:=by unfold fV;rw [if_pos hlt]
  rw [tI];clear tI
  go_wp2_with fail
  refine (qX _ _ _ _ _ ha0).mono ?_;rintro e w1 ⟨a1,c1,rfl,hr1,jI,hx1⟩;go_wp2
  go_ret3
  rw [Nat.div_eq_of_lt hlt,Nat.mod_eq_of_lt hlt];exact ⟨none,0,a1,c1,rfl,Raw.nil _,Fr.none _,hr1,jI.mono qY.ext.size,qY.ext.trans hx1⟩
 .have tI:0<=fV n m:=by unfold fV;rw [if_neg ae];split<;>decide
  by_cases h2:len n<=2
  .have ri:len m<=2:=Nat.le_trans (df ae) h2
   have NQ:=fS.1 h2;have NR:=fS.1 ri;have hq:n/m<=n:=Nat.div_le_self _ _;have hr:n % m<m:=Nat.mod_lt _ hm;go_wp2_with fail
   refine (oG _ _ _ _ _ ha0 h2).mono ?_;rintro e w' ⟨rfl,rfl⟩;go_wp2_with fail
   refine (oG _ _ _ _ _ hb0 ri).mono ?_;rintro e w' ⟨rfl,rfl⟩;have Ys:((m:Nat):Int)≠0:=ae;have Yt:(((m:Nat):Int)==0)=false:=by rw [beq_eq_false_iff_ne];omega
   have h1m:(1:Int)<=(m:Int):=ae;have hqb:n/m<18446744073709551616:=Nat.lt_of_le_of_lt hq NQ;have GS:n % m<18446744073709551616:=Nat.lt_trans hr NR
   have e1:IntKind.u64.wrap ((n:Int)/(m:Int))=((n/m:Nat):Int):=by
    rw [IntKind.wrap_u64,<-Int.natCast_ediv];generalize n/m=z at*;omega
   have e2:(n:Int).tmod (m:Int)=((n % m:Nat):Int):=by
    rw [Int.tmod_eq_emod_of_nonneg ae,Int.natCast_emod]
   generalize S8:n/m=qq at*;generalize Nj:n % m=rr at*;have HQ:=ah S8;have HR:=ah Nj;clear S8 Nj
   have fT:True:=trivial;go_wp2_with fail
   go_region_with (first
    |(go_at_call 144;have _t:=fT;refine (di _ _ (by assumption)).mono ?_;rintro e w1 ⟨a1,c1,rfl,hr1,jI,hx1⟩;clear fT _t)
    |(go_at_call 144;refine (di _ _ (by assumption)).mono ?_;rintro e w2 ⟨a2,c2,rfl,hr2,hf2,hx2⟩))
   all_goals go_wp2
   all_goals go_ret3
   all_goals exact ⟨a1,c1,a2,c2,rfl,hr1.ext hx2,jI.mono qY.ext.size,hr2,hf2.mono (Nat.le_trans qY.ext.size hx1.size),(qY.ext.drew.trans hx1).trans hx2⟩
  .have h2': ¬len n<=2:=h2
   by_cases h1:len m=1
   .have h1':(((len m:Nat):Int)==1)=true:=by simp [h1]
    have Nl:=EM.1 (Nat.le_of_eq h1);obtain ⟨l,hl,hv,hB⟩:=hb0;obtain ⟨pb,ob,rfl⟩:=hB.at ae;have hc:=hB.cellAt 0 ae
    have e0:limb l 0=m:=by
     rw [h1]at hl;match l,hl with
     | [x],_=>simpa [limb,val]using hv
    rw [e0,Nat.add_zero]at hc;have HL:=ah hl;have HV:=ah hv;have H1:=ah h1;have E0:=ah e0;clear hl hv h1 e0
    have h0m:(0:Int)<(len m:Int):=ae;go_wp2_with fail
    refine (tJ _ _ _ _ _ ha0 hm Nl).mono ?_;rintro e w1 ⟨a1,c1,a2,c2,rfl,hr1,jI,hr2,hf2,hx1⟩;go_wp2
    go_ret3
    exact ⟨a1,c1,a2,c2,rfl,hr1,jI.mono qY.ext.size,hr2,hf2.mono qY.ext.size,qY.ext.trans hx1⟩
   .have h1':(((len m:Nat):Int)==1)=false:=by rw [beq_eq_false_iff_ne];omega
    go_wp2_with fail
    refine (wK _ _ _ _ _ _ _ ha0 hb0 ae ae hs).mono ?_;rintro e w1 ⟨a1,c1,a2,c2,rfl,hr1,jI,hr2,hf2,hx1⟩;go_wp2
    go_ret3
    exact ⟨a1,c1,a2,c2,rfl,hr1,jI.mono qY.ext.size,hr2,hf2.mono qY.ext.size,qY.ext.trans hx1⟩
structure J5 (X Y:Nat) (s:Int) (x y u1 u2 v1 v2:Nat):Prop where
 sg:s=1\/s= -1
 ex:(x:Int)=s*(u1*X-v1*Y)
 ey:(y:Int)=s*(v2*Y-u2*X)
 det:(u1:Int)*v2-u2*v1=s
 le:y<=x
 uv:u2<=v2
 sum:u1+u2<=v1+v2
 pos:1<=v2
theorem J5.start {X Y:Nat} (h:Y<=X):J5 X Y 1 X Y 1 0 0 1:=
 ⟨Or.inl rfl,aG,aG,aG,h,ae,ae,ae⟩
theorem J5.big {X Y:Nat} {s:Int} {x y u1 u2 v1 v2:Nat} (h:J5 X Y s x y u1 u2 v1 v2):v2*x+v1*y=X/\u2*x+u1*y=Y:=by
 obtain ⟨hs,ex,ey,det,-,-,-,-⟩:=h;constructor
 .apply Int.ofNat.inj
  show((v2*x+v1*y:Nat):Int)=(X:Int)
  push_cast
  rw [ex,ey];rcases hs with rfl|rfl<;>grind
 .apply Int.ofNat.inj
  show((u2*x+u1*y:Nat):Int)=(Y:Int)
  push_cast
  rw [ex,ey];rcases hs with rfl|rfl<;>grind
theorem J5.step {X Y:Nat} {s:Int} {x y u1 u2 v1 v2:Nat} (h:J5 X Y s x y u1 u2 v1 v2) (h0:0<y):J5 X Y (-s) y (x % y) u2 (u1+x/y*u2) v2 (v1+x/y*v2):=by
 have hm:(x:Int)=(x/y:Nat)*y+(x % y:Nat):=by rw [<-Int.natCast_mul,<-Int.natCast_add,Nat.div_add_mod']
 have hq:1<=x/y:=(Nat.le_div_iff_mul_le h0).2 (bA h.le);have hr:=Nat.mod_lt x h0;obtain ⟨hs,ex,ey,det,-,uv,sum,pos⟩:=h;generalize x/y=q at*;generalize x % y=r at*;have h1:u2*(q-1)<=v2*(q-1):=Nat.mul_le_mul_right _ uv;obtain ⟨k,rfl⟩: ∃k,q=k+1:=⟨q-1,ae⟩;simp only [Nat.add_sub_cancel]at h1;rw [Nat.mul_comm u2,Nat.mul_comm v2]at h1;refine ⟨ae,?_,?_,?_,ae,?_,?_,?_⟩
 .rw [ey];grind
 .have e:(r:Int)=x-((k+1:Nat):Int)*y:=ae
  rw [e,ex,ey];push_cast;grind
 .push_cast;grind
 .rw [Nat.add_mul,Nat.add_mul,Nat.one_mul,Nat.one_mul];omega
 .rw [Nat.add_mul,Nat.add_mul,Nat.one_mul,Nat.one_mul];omega
 .rw [Nat.add_mul,Nat.one_mul];omega
structure nh (a b:Nat) (even:Bool) (u0 v0 u1 v1 A B:Nat):Prop where
 fst:if even then A+v0*b=u0*a else A+u0*a=v0*b
 snd:if even then B+u1*a=v1*b else B+v1*b=u1*a
 le:B<=A
 ea:a=v1*A+v0*B
 eb:b=u1*A+u0*B
 pos:1<=v1
theorem vM {x y E a1:Int} (hx:0<=x) (mG:x<=y) (ha:0<=a1) (hE:a1<=E):0<=x*a1/\x*a1<=y*E:=
 ⟨Int.mul_nonneg hx ha,Int.mul_le_mul mG hE ha ae⟩
theorem J5.o {X Y a b E a1 b1:Nat} {s:Int} {x y u1 u2 v1 v2:Nat} (h:J5 X Y s x y u1 u2 v1 v2) (ha:a=X*E+a1) (hb:b=Y*E+b1) (ha1:a1<E) (hb1:b1<E)
 (c1:v2<=y) (c2:v1+v2<=x-y): ∃A B,nh a b (decide (s=1)) u1 v1 u2 v2 A B:=by
 obtain ⟨hs,ex,ey,det,le,uv,sum,pos⟩:=h;have ha':(a:Int)=X*E+a1:=by exact_mod_cast ha
 have hb':(b:Int)=Y*E+b1:=by exact_mod_cast hb
 have p1:=vM (x:=(u2:Int)) (y:=v2) (E:=E) (a1:=a1) ae ae ae ae;have p2:=vM (x:=(v2:Int)) (y:=v2) (E:=E) (a1:=b1) ae ae ae ae;have p3:=vM (x:=((u1+u2:Nat):Int)) (y:=((v1+v2:Nat):Int)) (E:=E) (a1:=a1) ae ae ae ae;have p4:=vM (x:=((v1+v2:Nat):Int)) (y:=((v1+v2:Nat):Int)) (E:=E) (a1:=b1) ae ae ae ae;have q1:(v2:Int)*E<=y*E:=Int.mul_le_mul_of_nonneg_right ae ae;have q2:((v1+v2:Nat):Int)*E<=(x-y)*E:=Int.mul_le_mul_of_nonneg_right ae ae;have eB:s*(v2*b-u2*a)=y*E+s*(v2*b1-u2*a1):=by rw [ha',hb',ey];grind
 have eD:s*(u1*a-v1*b)-s*(v2*b-u2*a)=(x-y)*E+s*(((u1+u2:Nat):Int)*a1-((v1+v2:Nat):Int)*b1):=by rw [ha',hb',ex,ey];push_cast;grind
 have hB:0<=s*(v2*b-u2*a):=by
  rw [eB];rcases hs with rfl|rfl<;>omega
 have hD:0<=s*(u1*a-v1*b)-s*(v2*b-u2*a):=by
  rw [eD];rcases hs with rfl|rfl<;>omega
 obtain ⟨B,eB'⟩:=Int.eq_ofNat_of_zero_le hB;obtain ⟨A,eA'⟩:=Int.eq_ofNat_of_zero_le (show 0<=s*(u1*a-v1*b) by omega);refine ⟨A,B,?_,?_,ae,?_,?_,pos⟩
 .rcases hs with rfl|rfl
  .rw [if_pos aq]
   apply Int.ofNat.inj;show((A+v1*b:Nat):Int)=((u1*a:Nat):Int)
   push_cast;grind
  .rw [if_neg aq]
   apply Int.ofNat.inj;show((A+u1*a:Nat):Int)=((v1*b:Nat):Int)
   push_cast;grind
 .rcases hs with rfl|rfl
  .rw [if_pos aq]
   apply Int.ofNat.inj;show((B+u2*a:Nat):Int)=((v2*b:Nat):Int)
   push_cast;grind
  .rw [if_neg aq]
   apply Int.ofNat.inj;show((B+v2*b:Nat):Int)=((u2*a:Nat):Int)
   push_cast;grind
 .apply Int.ofNat.inj
  show((a:Nat):Int)=((v2*A+v1*B:Nat):Int)
  push_cast
  rw [<-eA',<-eB'];rcases hs with rfl|rfl<;>grind
 .apply Int.ofNat.inj
  show((b:Nat):Int)=((u2*A+u1*B:Nat):Int)
  push_cast
  rw [<-eA',<-eB'];rcases hs with rfl|rfl<;>grind
theorem nh.gcd {a b:Nat} {even:Bool} {u0 v0 u1 v1 A B:Nat} (h:nh a b even u0 v0 u1 v1 A B):Nat.gcd A B=Nat.gcd a b:=by
 obtain ⟨h1,h2,-,ea,eb,-⟩:=h;apply Nat.dvd_antisymm
 .have d1:=Nat.gcd_dvd_left A B
  have d2:=Nat.gcd_dvd_right A B;apply Nat.dvd_gcd
  .rw [ea];exact Nat.dvd_add (Nat.dvd_mul_left_of_dvd d1 _) (Nat.dvd_mul_left_of_dvd d2 _)
  .rw [eb];exact Nat.dvd_add (Nat.dvd_mul_left_of_dvd d1 _) (Nat.dvd_mul_left_of_dvd d2 _)
 .have d1:=Nat.gcd_dvd_left a b
  have d2:=Nat.gcd_dvd_right a b;cases even
  .simp only [Bool.false_eq_true,if_false]at h1 h2
   apply Nat.dvd_gcd
   .exact (Nat.dvd_add_left (Nat.dvd_mul_left_of_dvd d1 u0)).1 (by rw [h1];exact Nat.dvd_mul_left_of_dvd d2 _)
   .exact (Nat.dvd_add_left (Nat.dvd_mul_left_of_dvd d2 v1)).1 (by rw [h2];exact Nat.dvd_mul_left_of_dvd d1 _)
  .simp only [if_true]at h1 h2
   apply Nat.dvd_gcd
   .exact (Nat.dvd_add_left (Nat.dvd_mul_left_of_dvd d2 v0)).1 (by rw [h1];exact Nat.dvd_mul_left_of_dvd d1 _)
   .exact (Nat.dvd_add_left (Nat.dvd_mul_left_of_dvd d1 u1)).1 (by rw [h2];exact Nat.dvd_mul_left_of_dvd d2 _)
theorem nh.less {a b:Nat} {even:Bool} {u0 v0 u1 v1 A B:Nat} (h:nh a b even u0 v0 u1 v1 A B) (h0:v0≠0) (hb:0<b):A+B<a+b:=by
 have:=h.ea;have h1:A<=v1*A:=Nat.le_mul_of_pos_left _ h.pos;have h2:B<=v0*B:=Nat.le_mul_of_pos_left _ ae;omega
theorem vn (w:World) (p:Addr) (a:Option Addr) (k c i:Nat) (l:List Nat) (hp:w.cell? p=some (.slice a k c)) (hl:l.length=k) (h:eU w a c l):
 Calls prog 207 #[.int .i64 (i:Nat),.pointer (some p)] w λe w'=>e= .returned (.int .u64 (limb l i:Nat))/\w=w':=by
 have h1:=h.le;have h2:=h.short;by_cases hi:i<k
 .obtain ⟨b,o,rfl⟩:=h.at ae
  have hc:=h.cellAt i ae;have hx:=bQ h.small i;have HL:=ah hl;clear hl
  go_enter func207,ntmps207
  go_wp2
  go_ret;exact ⟨rfl,rfl⟩
 .have HZ:=ah (fU (l:=l) (i:=i) ae)
  have HL:=ah hl;clear hl
  go_enter func207,ntmps207
  go_wp2
  go_ret;exact ⟨cL (by rw [HZ.o];rfl),rfl⟩
theorem NS {l:List Nat} {n s:Nat} (hs:Small l) (hl:l.length<=n) (h3:3<=n) (hlt:s<32):
 val l/2^(32*(n-2)-s)=(limb l (n-2)+4294967296*limb l (n-1))*2^s+limb l (n-3)/2^(32-s):=by
 have e0:val (l++List.replicate (n-l.length) 0)=val l:=by rw [cO,jT,Nat.mul_zero,Nat.add_zero]
 have el: ∀i,limb (l++List.replicate (n-l.length) 0) i=limb l i:=by
  intro i;by_cases hi:i<l.length
  .exact tH hi
  .rw [fU (l:=l) ae]
   unfold limb;rw [List.getElem?_append_right ae];exact kW _ _
 have sl:Small (l++List.replicate (n-l.length) 0):=hs.append (Small.replicate _);have ll:(l++List.replicate (n-l.length) 0).length=n:=by simp;omega
 generalize l++List.replicate (n-l.length) 0=X at*;have e1:=CC (X:=X) (t:=n-3) ae;have E9:=gH sl (t:=n-3) ae;rw [el,el,el,show n-3+1=n-2 from ae,show n-3+2=n-1 from by omega]at e1;rw [<-e0,show 32*(n-2)-s=32*(n-3)+(32-s)from ae,Nat.pow_add,<-Nat.div_div_eq_div_mul,<-pow_eq,e1,Nat.add_mul_div_left _ _ (Nat.pow_pos aq),Nat.div_eq_of_lt E9,Nat.zero_add]
 have e2: ∀Z,4294967296*Z=2^(32-s)*(Z*2^s):=by
  intro Z;rw [Nat.mul_left_comm,<-Nat.pow_add,show 32-s+s=32 from ae,Nat.mul_comm]
 rw [e2 (limb l (n-2)+4294967296*limb l (n-1)),Nat.add_mul_div_left _ _ (Nat.two_pow_pos _),Nat.add_comm]
theorem QP {l:List Nat} {n s:Nat} (hs:Small l) (hl:l.length<=n) (h3:3<=n) (hlt:s<32) (hb:val l<2^(32*n-s)):
 bits BinOp.or IntKind.u64 (IntKind.u64.wrap (((limb l (n-2)+4294967296*limb l (n-1):Nat):Int)*2^s)) (((limb l (n-3):Nat):Int)/2^(32-s))=((val l/2^(32*(n-2)-s):Nat):Int)/\val l/2^(32*(n-2)-s)<18446744073709551616:=by
 have e:=NS hs hl h3 hlt
 have hv:val l/2^(32*(n-2)-s)<18446744073709551616:=by
  rw [Nat.div_lt_iff_lt_mul (Nat.two_pow_pos _),show(18446744073709551616:Nat)=2^64 from aq,<-Nat.pow_add,show 64+(32*(n-2)-s)=32*n-s from by omega];exact hb
 refine ⟨?_,hv⟩;rw [e]at hv⊢;have hx:=bQ hs (n-3)
 have h5:limb l (n-3)/2^(32-s)<2^s:=by
  rw [Nat.div_lt_iff_lt_mul (Nat.two_pow_pos _),<-Nat.pow_add,show s+(32-s)=32 from by omega];exact hx
 have e2:(((limb l (n-3):Nat):Int)/2^(32-s))=((limb l (n-3)/2^(32-s):Nat):Int):=by rw [Int.natCast_ediv,Int.natCast_pow];rfl
 have e3:(((limb l (n-2)+4294967296*limb l (n-1):Nat):Int)*2^s)=(((limb l (n-2)+4294967296*limb l (n-1))*2^s:Nat):Int):=by rw [Int.natCast_mul,Int.natCast_pow];rfl
 rw [e2,e3];generalize limb l (n-2)+4294967296*limb l (n-1)=y at*;generalize limb l (n-3)/2^(32-s)=z at*
 have e4:IntKind.u64.wrap ((y*2^s:Nat):Int)=((y*2^s:Nat):Int):=by
  rw [IntKind.wrap_u64];generalize y*2^s=t at*;omega
 rw [e4,u64_or_nat _ _ ae ae];have:=Nat.shiftLeft_add_eq_or_of_lt h5 y;rw [Nat.shiftLeft_eq]at this;rw [<-this]
theorem wL (w:World) (a:Option Addr) (k c m n s:Nat) (h:Raw w a k c m) (hk:k<=n) (hn:n<1000000000) (h3:3<=n) (hs:s<32) (hb:m<2^(32*n-s)):
 Calls prog 202 #[.slice a k c,.int .i64 (n:Nat),.int .i64 (s:Nat)] w λe w'=>e= .returned (.int .u64 (m/2^(32*(n-2)-s):Nat))/\Ext w w':=by
 obtain ⟨l,hl,hv,hA⟩:=h;rw [<-hv]at hb;have HW:=ah (QP hA.small ae h3 hs hb);have b1:=bQ hA.small (n-1);have b2:=bQ hA.small (n-2);have b3:=bQ hA.small (n-3);have HL:=ah hl;have HV:=ah hv;clear hl hv hb
 go_enter func202,ntmps202
 go_wp2_with fail
 have hx0:Ext w (w.alloc (Obj.cells #[Value.slice a k c] 88)):=ar.alloc _;have hcell:(w.alloc (Obj.cells #[Value.slice a k c] 88)).cell? ⟨w.heap.size,0,none⟩=some (.slice a k c):=(aT.alloc w 88 [.slice a k c]).cell 0;generalize w.alloc (Obj.cells #[Value.slice a k c] 88)=W at hx0 hcell⊢
 have cl: ∀q i:Nat,Calls prog 207 #[.int .i64 (i:Nat),.pointer (some ⟨w.heap.size,0,none⟩)] (W.drewN q) λe w'=>e= .returned (.int .u64 (limb l i:Nat))/\w'=W.drewN q:=by
  intro q i;exact (vn (W.drewN q) ⟨w.heap.size,0,none⟩ a k c i l (by rw [<-hcell];rfl) HL.o ((hA.ext hx0).ext (ar.drewN q))).mono (λe w' ⟨h1,h2⟩=>⟨h1,h2.symm⟩)
 have CL:=ah cl;clear cl
 have e1:IntKind.i64.wrap ((n:Int)-1)=((n-1:Nat):Int):=by rw [IntWalk.i64_in _ ae];omega
 have e2:IntKind.i64.wrap ((n:Int)-2)=((n-2:Nat):Int):=by rw [IntWalk.i64_in _ ae];omega
 have e3:IntKind.i64.wrap ((n:Int)-3)=((n-3:Nat):Int):=by rw [IntWalk.i64_in _ ae];omega
 have e4:IntKind.i64.wrap (32-(s:Int))=((32-s:Nat):Int):=by rw [IntWalk.i64_in _ ae];omega
 have hor:=Cu (limb l (n-1)) (limb l (n-2)) b1 b2;go_quiet ((go_at_call 207;exact Calls.quiet_of_same (CL.o _ _)))
 clear e1 e2 e3 e4;go_wp2
 go_ret;refine ⟨cL ?_,hx0.drewN _⟩;have hW:=HW.o.1;rw [HV.o]at hW;simp only [Int.natCast_add,Int.natCast_mul]at hW;exact hW
theorem lS (w:World) (a b:Option Addr) (k k' c c' n m x y:Nat) (ha:Raw w a k c n) (hb:Raw w b k' c' m) (h1:len n<900000000) (h2:len m<900000000) (hx:x<18446744073709551616) (hy:y<18446744073709551616) (hle:m*y<=n*x):
 Calls prog 192 #[.slice a k c,.int .u64 (x:Nat),.slice b k' c',.int .u64 (y:Nat)] w (iL (n*x-m*y) w):=by
 have lx:=fS.2 hx;have ly:=fS.2 hy;go_enter func192,ntmps192
 go_wp2_with fail
 refine (di _ _ hx).mono ?_;rintro e w1 ⟨a1,c1,rfl,r1,f1,x1⟩;go_wp2_with fail
 refine (vL _ _ _ _ _ _ _ _ _ (ha.ext x1) r1 ae ae).mono ?_;rintro e w2 ⟨a2,c2,rfl,r2,f2,x2⟩;go_wp2_with fail
 refine (di _ _ hy).mono ?_;rintro e w3 ⟨a3,c3,rfl,r3,f3,x3⟩;go_wp2_with fail
 refine (vL _ _ _ _ _ _ _ _ _ (((hb.ext x1).ext x2).ext x3) r3 ae ae).mono ?_;rintro e w4 ⟨a4,c4,rfl,r4,f4,x4⟩;go_wp2_with fail
 refine (Ay _ _ _ _ _ _ _ _ _ ((r2.ext x3).ext x4) r4 hle).mono ?_;rintro e w5 ⟨a5,c5,rfl,r5,f5,x5⟩;go_wp2
 go_ret;have gG:=(((x1.trans x2).trans x3).trans x4);exact ⟨_,_,rfl,r5,f5.mono gG.size,gG.trans x5⟩
theorem Fb {W w1:World} {b:Nat} {T:TypeId} {v0 v1 v2 v3 v4:Value} (h:aT W b T [v0,v1,v2,v3,v4]) (hx:Ext W w1):
 (w1.cell? ⟨b,0,none⟩=some v0/\w1.cell? ⟨b,1,none⟩=some v1/\w1.cell? ⟨b,2,none⟩=some v2/\w1.cell? ⟨b,3,none⟩=some v3/\w1.cell? ⟨b,4,none⟩=some v4)/\w1.frozen? ⟨b,0,none⟩=false/\w1.frozen? ⟨b,1,none⟩=false/\w1.frozen? ⟨b,2,none⟩=false/\w1.frozen? ⟨b,3,none⟩=false/\w1.frozen? ⟨b,4,none⟩=false:=
 ⟨⟨(h.ext hx).cell 0,(h.ext hx).cell 1,(h.ext hx).cell 2,(h.ext hx).cell 3,(h.ext hx).cell 4⟩,(h.ext hx).frozen 0,(h.ext hx).frozen 1,(h.ext hx).frozen 2,(h.ext hx).frozen 3,(h.ext hx).frozen 4⟩
theorem Touch.five {lo hi b:Nat} (w:World) (h1:lo<=b) (h2:b<hi) (v0 v1 v2 v3 v4:Value):Touch lo hi w (((((w.setCell ⟨b,0,none⟩ v0).setCell ⟨b,1,none⟩ v1).setCell ⟨b,2,none⟩ v2).setCell ⟨b,3,none⟩ v3).setCell ⟨b,4,none⟩ v4):=
 (((((Touch.refl _ _ _).setCell h1 h2 _).setCell h1 h2 _).setCell h1 h2 _).setCell h1 h2 _).setCell h1 h2 _
def sg (ev:Bool):Int:=if ev then-1 else 1
theorem QQ (ev:Bool): -sg ev=sg (!ev):=by cases ev<;>rfl
theorem QR (ev:Bool):decide (sg ev=1)= !ev:=by cases ev<;>rfl
def QS (n m:Nat) (w:World) (e:Ending) (w':World):Prop:=
 ∃(u0 u1 v0 v1:Nat) (ev:Bool),e= .returned (.agg #[.int .u64 u0,.int .u64 u1,.int .u64 v0,.int .u64 v1,.bool ev])/\u0<18446744073709551616/\u1<18446744073709551616/\v0<18446744073709551616/\v1<18446744073709551616/\(v0=0\/ ∃A B,nh n m ev u0 v0 u1 v1 A B)/\Ext w w'
theorem Iu {n:Nat} {l:List Nat} (hs:Small l) (hl:l.length=len n) (hv:val l=n) (h0:0<len n):n<2^(32*len n-lz (limb l (len n-1)))/\lz (limb l (len n-1))<32:=by
 have hx:=bQ hs (len n-1);have ht:=lQ hs ae (by rw [hv,hl]);rw [hl]at ht;obtain ⟨z1,z2,z3⟩:=zo (x:=limb l (len n-1)) ae hx
 have Yo:n=val (l.take (len n-1))+4294967296^(len n-1)*limb l (len n-1):=by
  have:=bT (l:=l) (k:=len n-1) ae;rw [show len n-1+1=l.length from ae,List.take_length,hv]at this;exact this
 have KG:=gH hs (t:=len n-1) ae;obtain ⟨Pz,Z8⟩:=CD Yo KG z1 z2 z3;rw [show len n-1+1=len n from ae,pow_eq]at Pz;refine ⟨?_,z1⟩;generalize lz (limb l (len n-1))=s at*;have e:2^(32*len n)=2^(32*len n-s)*2^s:=by rw [<-Nat.pow_add];congr 1;omega
 rw [e]at Pz;exact Nat.lt_of_mul_lt_mul_right Pz
theorem CF (w:World) (a b:Option Addr) (c c' n m:Nat) (ha:Raw w a (len n) c n) (hb:Raw w b (len m) c' m) (h3:3<=len n) (hle:m<=n) (hs:len n<900000000):
 Calls prog 191 #[.slice a (len n) c,.slice b (len m) c'] w (QS n m w):=by
 have wI:=df hle;have la:=ha.le;obtain ⟨l,hl,hv,hA⟩:=id ha;obtain ⟨pa,oa,rfl⟩:=hA.at ae;have hx:=bQ hA.small (len n-1);have ht:=lQ hA.small ae (by rw [hv,hl]);rw [hl]at ht;obtain ⟨tb,z1⟩:=Iu hA.small hl hv ae;have NP:=λW=>kD (limb l (len n-1)) W ae hx;have HL:=ah hl;have HV:=ah hv
 clear hl hv;generalize lz (limb l (len n-1))=s at tb z1 NP;have Tc:=ah tb;have HLZ:=ah NP
 clear tb NP;have hwA: ∀V,Ext w V->Calls prog 202 #[.slice (some ⟨pa,oa,none⟩) (len n) c,.int .i64 (len n:Nat),.int .i64 (s:Nat)] V λe w'=>e= .returned (.int .u64 (n/2^(32*(len n-2)-s):Nat))/\Ext V w':=λV hV=>wL _ _ _ _ _ _ _ (ha.ext hV) bY ae h3 z1 Tc.o;have hwB: ∀V,Ext w V->Calls prog 202 #[.slice b (len m) c',.int .i64 (len n:Nat),.int .i64 (s:Nat)] V λe w'=>e= .returned (.int .u64 (m/2^(32*(len n-2)-s):Nat))/\Ext V w':=λV hV=>wL _ _ _ _ _ _ _ (hb.ext hV) wI ae h3 z1 (Nat.lt_of_le_of_lt hle Tc.o);have QT:0<2^(32*(len n-2)-s):=Nat.two_pow_pos _
 have hXb:n/2^(32*(len n-2)-s)<18446744073709551616:=by
  rw [Nat.div_lt_iff_lt_mul QT,show(18446744073709551616:Nat)=2^64 from aq,<-Nat.pow_add,show 64+(32*(len n-2)-s)=32*len n-s from by omega];exact Tc.o
 have hYX:m/2^(32*(len n-2)-s)<=n/2^(32*(len n-2)-s):=Nat.div_le_div_right hle;have hna:=(Nat.div_add_mod' n (2^(32*(len n-2)-s))).symm;have Yt:=(Nat.div_add_mod' m (2^(32*(len n-2)-s))).symm;have Uk:=Nat.mod_lt n QT;have Ul:=Nat.mod_lt m QT;generalize n/2^(32*(len n-2)-s)=X at*;generalize m/2^(32*(len n-2)-s)=Y at*;have hout: ∀(sx:Int) (x y u1 u2 v1 v2:Nat),J5 X Y sx x y u1 u2 v1 v2->v2<=y->v1+v2<=x-y-> ∃A B,nh n m (decide (sx=1)) u1 v1 u2 v2 A B:=λ_ _ _ _ _ _ _ h c1 c2=>h.o hna Yt Uk Ul c1 c2;have HO:=ah hout;have HA:=ah hwA;have HB:=ah hwB
 clear hout hwA hwB hna Yt Uk Ul QT;go_enter func191,ntmps191
 go_upto_region 1 with fail
 obtain ⟨W,hW,x0,Z0,A0⟩:=aV w 220 [.int .u64 0,.int .u64 0,.int .u64 0,.int .u64 0,.bool false];rw [<-hW];clear hW;have hc:=(hA.ext x0).cellAt (len n-1) (by rw [HL.o];omega);go_wp2_with fail
 refine (HLZ.o W).mono ?_;rintro e w' ⟨rfl,rfl⟩;go_wp2_with fail
 refine (HA.o _ x0).mono ?_;rintro e w1 ⟨rfl,hx1⟩;go_wp2_with fail
 refine (HB.o _ (x0.trans hx1)).mono ?_;rintro e w2 ⟨rfl,hx2⟩;have Iw:=hx1.trans hx2;go_wp2
 go_loopw [7,8,9,10,11,12,13,14,15] (λa7 a8 a9 Fc a11 a12 a13 a14 a15 wr=> ∃(x y u0 u1 u2 v0 v1 v2:Nat) (ev:Bool),x<18446744073709551616/\y<18446744073709551616/\u0<18446744073709551616/\u1<18446744073709551616/\u2<18446744073709551616/\v0<18446744073709551616/\v1<18446744073709551616/\v2<18446744073709551616/\Hid (J5 X Y (sg ev) x y u1 u2 v1 v2)/\Hid (v0=0\/ ∃A B,nh n m ev u0 v0 u1 v1 A B)/\Quiet w2 wr/\
  a7= .int .u64 x/\a8= .int .u64 y/\a9= .int .u64 u0/\Fc= .int .u64 u1/\a11= .int .u64 u2/\a12= .int .u64 v0/\a13= .int .u64 v1/\a14= .int .u64 v2/\a15= .bool ev) (λ_ a8 _ _ _ _ _ _ _ _=>(intOf a8).toNat)
 case atStart=>exact ⟨X,Y,0,1,0,0,0,1,false,hXb,ae,ae,ae,ae,ae,ae,ae,J5.start hYX,Or.inl rfl,Quiet.refl _,rfl,rfl,rfl,rfl,rfl,rfl,rfl,rfl,rfl⟩
 case round=>
  obtain ⟨x,y,u0,u1,u2,v0,v1,v2,ev,k1,k2,k3,k4,k5,k6,k7,k8,hL,hO,hq,rfl,rfl,rfl,rfl,rfl,rfl,rfl,rfl,rfl⟩:=hrel;have hyx:=hL.o.le;by_cases c1:v2<=y
  .have AJ:=hL.o.big.1
   have hv2:=hL.o.pos
   have AK:v1+v2<=X:=by
    rw [<-AJ];have h1:v2*1<=v2*x:=Nat.mul_le_mul_left _ ae;have h2:v1*1<=v1*y:=Nat.mul_le_mul_left _ ae;omega
   clear AJ;by_cases c2:v1+v2<=x-y
   .have d1:decide ((v2:Int)<=(y:Int))=true:=by simp;exact c1
    have d2:decide ((v1:Int)+(v2:Int)<=(x:Int)-(y:Int))=true:=by simp;omega
    have Ix:0<y:=ae;have hst:=hL.o.step Ix;have hlt:=Nat.mod_lt x Ix;have hql:x/y<=x:=Nat.div_le_self _ _;have hb2:=hst.big.1;have huv:=hst.uv;have ho:=HO.o _ _ _ _ _ _ _ hL.o c1 c2;rw [QR]at ho;rw [QQ]at hst;have eq1:(x:Int)/(y:Int)=((x/y:Nat):Int):=by rw [Int.natCast_ediv]
    have er1:(x:Int) % (y:Int)=((x % y:Nat):Int):=by rw [Int.natCast_emod]
    generalize x/y=q at*;generalize x % y=r at*;have eq2:IntKind.u64.wrap ((x:Int)/(y:Int))=(q:Int):=by rw [eq1,IntKind.wrap_u64];omega
    have er2:(x:Int).tmod (y:Int)=(r:Int):=by rw [Int.tmod_eq_emod_of_nonneg ae,er1]
    have hv3:v1+q*v2<=X:=by
     rw [<-hb2];have h1:(v1+q*v2)*1<=(v1+q*v2)*y:=Nat.mul_le_mul_left _ ae;omega
    clear hb2;have m1:(q:Int)*(v2:Int)<=18446744073709551615:=by rw [<-Int.natCast_mul];omega
    have m2:0<=(q:Int)*(v2:Int):=by rw [<-Int.natCast_mul];omega
    have m3:(q:Int)*(u2:Int)<=18446744073709551615:=by rw [<-Int.natCast_mul];omega
    have m4:0<=(q:Int)*(u2:Int):=by rw [<-Int.natCast_mul];omega
    have m5:(v1:Int)+(q:Int)*(v2:Int)<=18446744073709551615:=by rw [<-Int.natCast_mul];omega
    have m6:(u1:Int)+(q:Int)*(u2:Int)<=18446744073709551615:=by rw [<-Int.natCast_mul];omega
    have m7:u1+q*u2<18446744073709551616:=ae;have m8:v1+q*v2<18446744073709551616:=ae;have HST:=ah hst;have HOO:=ah ho
    clear hst ho huv hv3;have y1:(1:Int)<=(y:Int):=ae;have y2:((y:Int)==0)=false:=by rw [beq_eq_false_iff_ne];omega
    have y3:((y:Nat):Int)≠0:=ae;go_wp2_with fail
    go_quiet (fail)
    go_wp2_with fail
    refine ⟨⟨y,r,u1,u2,u1+q*u2,v1,v2,v1+q*v2,!ev,k2,ae,k4,k5,m7,k7,k8,m8,HST,Or.inr HOO.o,hq.drewN _,rfl,rfl,rfl,rfl,?_,rfl,rfl,?_,rfl⟩,?_⟩
    .rw [Int.natCast_add,Int.natCast_mul]
    .rw [Int.natCast_add,Int.natCast_mul]
    .simp [intOf];omega
   .have d1:decide ((v2:Int)<=(y:Int))=true:=by simp;exact c1
    have d2:decide ((v1:Int)+(v2:Int)<=(x:Int)-(y:Int))=false:=by simp;omega
    obtain ⟨⟨b0,b1,b2,b3,b4⟩,f0,f1,f2,f3,f4⟩:=Fb A0 (Iw.trans hq.ext);have zz:=(A0.ext (Iw.trans hq.ext)).lt;go_wp2
    exact bodyPost_ret (v:= .agg #[.int .u64 u0,.int .u64 u1,.int .u64 v0,.int .u64 v1,.bool ev]) (by simp [results,results191,go_sem,b0,b1,b2,b3,b4]) rfl ⟨u0,u1,v0,v1,ev,rfl,k3,k4,k6,k7,hO.o,x0.bt (Iw.trans hq.ext) (Touch.five _ bY (by rw [Z0.o];omega) _ _ _ _ _)⟩
  .have d2:decide ((v2:Int)<=(y:Int))=false:=by simp;omega
   obtain ⟨⟨b0,b1,b2,b3,b4⟩,f0,f1,f2,f3,f4⟩:=Fb A0 (Iw.trans hq.ext);have zz:=(A0.ext (Iw.trans hq.ext)).lt;go_wp2
   exact bodyPost_ret (v:= .agg #[.int .u64 u0,.int .u64 u1,.int .u64 v0,.int .u64 v1,.bool ev]) (by simp [results,results191,go_sem,b0,b1,b2,b3,b4]) rfl ⟨u0,u1,v0,v1,ev,rfl,k3,k4,k6,k7,hO.o,x0.bt (Iw.trans hq.ext) (Touch.five _ bY (by rw [Z0.o];omega) _ _ _ _ _)⟩
def PA (g n m:Nat) (w:World) (s0 s1:Value) (wr:World):Prop:=
 ∃(A B:Nat) (a b:Option Addr) (c c':Nat),A+B<=g/\B<=A/\Nat.gcd A B=Nat.gcd n m/\len A<400000000/\Raw wr a (len A) c A/\Raw wr b (len B) c' B/\Ext w wr/\s0= .slice a (len A) c/\s1= .slice b (len B) c'
theorem NT (w:World) (a b:Option Addr) (k k' c c' n m:Nat) (ha:Raw w a k c n) (hb:Raw w b k' c' m) (h1:len n<400000000) (h2:len m<400000000):
 Calls prog 171 #[.slice a k c,.slice b k' c'] w (iL (Nat.gcd n m) w):=by
 have ha':=ha.cut;have hb':=hb.cut;go_enter func171,ntmps171
 go_wp2_with fail
 refine (cM _ _ _ _ _ ha).mono ?_;rintro e w' ⟨rfl,rfl⟩;go_wp2_with fail
 refine (cM _ _ _ _ _ hb).mono ?_;rintro e w' ⟨rfl,rfl⟩;go_wp2_with fail
 refine (eu _ _ _ _ _ _ _ _ _ ha' hb').mono ?_;rintro e w0 ⟨rfl,qY⟩;have hq:=qY.ext;go_upto_if 18 with fail
 go_cut [0,1] (λs0 s1 wx=>PA (n+m) n m w s0 s1 wx)
 case first=>
  by_cases hlt:n<m
  .have hc:fV n m= -1:=by unfold fV;rw [if_pos hlt]
   rw [hc];clear hc
   go_wp2
   go_meet
   exact ⟨m,n,b,a,c',c,ae,ae,Nat.gcd_comm _ _,h2,hb'.ext hq,ha'.ext hq,hq,rfl,rfl⟩
  .have hc:0<=fV n m:=by unfold fV;rw [if_neg ae];split<;>decide
   go_wp2
   go_meet
   exact ⟨n,m,a,b,c,c',ae,ae,rfl,h1,ha'.ext hq,hb'.ext hq,hq,rfl,rfl⟩
 case rest=>
  have HC:=ah hcut;clear hcut;go_wp2_with fail
  go_loopg [0,1] (n+m) (λg s0 s1 wr=>PA g n m w s0 s1 wr)
  case atStart=>exact HC.o
  case round=>
   obtain ⟨A,B,a,b,c,c',hg,hBA,KJ,hlA,rA,rB,hx,rfl,rfl⟩:=hrel;have Yu:=df hBA;have PB:=ah KJ;clear KJ;have lA:=rA.le;by_cases hB:B=0
   .subst hB
    rw [oC];go_wp2_with fail
    refine (qX _ _ _ _ _ rA).mono ?_;rintro e w1 ⟨a1,c1,rfl,r1,f1,x1⟩;go_wp2
    go_ret;have hg0:=PB.o;rw [Nat.gcd_zero_right]at hg0;rw [<-hg0];exact ⟨_,_,rfl,r1,f1.mono hx.size,hx.trans x1⟩
   .have pB:=gM.2 (Nat.pos_of_ne_zero hB)
    by_cases h2:len A<=2
    .have aah:=fS.1 h2
     have aai:=fS.1 (Nat.le_trans Yu h2);go_wp2_with fail
     refine (oG _ _ _ _ _ rA h2).mono ?_;rintro e w' ⟨rfl,rfl⟩;go_wp2_with fail
     refine (oG _ _ _ _ _ rB (Nat.le_trans Yu h2)).mono ?_;rintro e w' ⟨rfl,rfl⟩;go_wp2_with fail
     obtain ⟨wo,rfl⟩: ∃wo:World,wo=wr:=⟨_,rfl⟩;go_loopw [5,6] (λs5 s6 wr=> ∃x y:Nat,x<18446744073709551616/\y<18446744073709551616/\Hid (Nat.gcd x y=Nat.gcd n m)/\Quiet wo wr/\s5= .int .u64 x/\s6= .int .u64 y) (λ_ s6 _=>(intOf s6).toNat)
     case atStart=>exact ⟨A,B,aah,aai,PB,Quiet.refl _,rfl,rfl⟩
     case round=>
      obtain ⟨x,y,aaj,agX,Um,hq,rfl,rfl⟩:=hrel;by_cases hy:y=0
      .subst hy
       go_wp2_with fail
       refine (di _ _ aaj).mono ?_;rintro e w1 ⟨a1,c1,rfl,r1,f1,x1⟩;go_wp2
       go_ret;have hg0:=Um.o;rw [Nat.gcd_zero_right]at hg0;rw [<-hg0];exact ⟨_,_,rfl,r1,f1.mono (Nat.le_trans hx.size hq.ext.size),(hx.trans hq.ext).trans x1⟩
      .have hyb:(((y:Nat):Int) !=0)=true:=by rw [bne_iff_ne];omega
       have e3:(x:Int).tmod (y:Int)=((x % y:Nat):Int):=by rw [Int.tmod_eq_emod_of_nonneg ae,Int.natCast_emod]
       have hyi:((y:Int)==0)=false:=by rw [beq_eq_false_iff_ne];omega
       have h1y:(1:Int)<=(y:Int):=ae;have hlt:=Nat.mod_lt x (Nat.pos_of_ne_zero hy);have PC:Nat.gcd y (x % y)=Nat.gcd x y:=by rw [Nat.gcd_comm y,<-Nat.gcd_rec,Nat.gcd_comm]
       have HG:=ah PC;clear PC
       go_wp2_with fail
       go_quiet (fail)
       go_wp2_with fail
       go_roundw
       case rel=>exact ⟨y,x % y,ae,ae,HG.o.trans Um.o,hq.drewN _,rfl,rfl⟩
       case measure=>simp [intOf];omega
    .go_wp2_with fail
     refine (CF _ _ _ _ _ _ _ rA rB ae hBA ae).mono ?_;rintro e w1 ⟨u0,u1,v0,v1,ev,rfl,k0,k1,k2,k3,hout,x1⟩;have HO:=ah hout;clear hout
     go_upto_region 11 with fail
     obtain ⟨W,hWe,x0,Z0,A0⟩:=aV w1 220 [.int .u64 u0,.int .u64 u1,.int .u64 v0,.int .u64 v1,.bool ev];rw [<-hWe];clear hWe;have hW:=x1.trans x0;obtain ⟨⟨b0,b1,b2,b3,b4⟩,f0,f1,f2,f3,f4⟩:=Fb A0 ar;by_cases hv0:v0=0
     .subst hv0
      go_wp2_with fail
      refine (kY _ _ _ _ _ _ _ _ _ (rA.ext hW) (rB.ext hW) (Nat.pos_of_ne_zero hB) ae).mono ?_;rintro e w2 ⟨a2,c2,a3,c3,rfl,r2,f2,r3,f3,x2⟩;have hlt:=Nat.mod_lt A (Nat.pos_of_ne_zero hB);go_wp2_with fail
      go_roundg (B+A % B)
      case measure=>omega
      case rel=>exact ⟨B,A % B,b,a3,c',c3,bY,ae,by rw [<-PB.o,Nat.gcd_comm B,<-Nat.gcd_rec,Nat.gcd_comm],ae,(rB.ext hW).ext x2,r3,(hx.trans hW).trans x2,rfl,rfl⟩
     .have hvb:(((v0:Nat):Int)==0)=false:=by rw [beq_eq_false_iff_ne];omega
      obtain ⟨A1,B1,hO⟩: ∃A1 B1,nh A B ev u0 v0 u1 v1 A1 B1:=by
       rcases HO.o with h|h
       .exact absurd h hv0
       .exact h
      have adx:=hO.less hv0 (Nat.pos_of_ne_zero hB)
      have PD:A1<=A:=by
       have h5:=hO.ea;have h6:A1<=v1*A1:=Nat.le_mul_of_pos_left _ hO.pos;omega
      cases ev with
      |true=>
       have q1:B*v0<=A*u0:=by have:=hO.fst;simp only [if_true]at this;rw [Nat.mul_comm B,Nat.mul_comm A];omega
       have q2:A*u1<=B*v1:=by have:=hO.snd;simp only [if_true]at this;rw [Nat.mul_comm B,Nat.mul_comm A];omega
       have e1:A*u0-B*v0=A1:=by have:=hO.fst;simp only [if_true]at this;rw [Nat.mul_comm B,Nat.mul_comm A];omega
       have e2:B*v1-A*u1=B1:=by have:=hO.snd;simp only [if_true]at this;rw [Nat.mul_comm B,Nat.mul_comm A];omega
       have hc1:=λV (hV:Ext wr V)=>lS V _ _ _ _ _ _ _ _ u0 v0 (rA.ext hV) (rB.ext hV) ae ae k0 k2 q1;have hc2:=λV (hV:Ext wr V)=>lS V _ _ _ _ _ _ _ _ v1 u1 (rB.ext hV) (rA.ext hV) ae ae k3 k1 q2;rw [e1]at hc1;rw [e2]at hc2;have aak:=df PD;have zq:=ah hc1;have qM:=ah hc2
       clear hc1 hc2 q1 q2 e1 e2;have fT:True:=trivial;go_wp2_with fail
       go_region_held3 (λw'=>w'.cell? ⟨w1.heap.size,0,none⟩=some (.int .u64 u0)/\w'.cell? ⟨w1.heap.size,1,none⟩=some (.int .u64 u1)/\w'.cell? ⟨w1.heap.size,2,none⟩=some (.int .u64 v0)/\w'.cell? ⟨w1.heap.size,3,none⟩=some (.int .u64 v1)) (first|exact ⟨b0,b1,b2,b3⟩|(simp [go_sem,b0,b1,b2,b3])) (first
        |(go_at_call 192;have _t:=fT;refine (zq.o _ (hW.drew)).mono ?_;rintro e w2 ⟨a2,c2,rfl,r2,f2,x2⟩;clear fT _t;obtain ⟨⟨b0,b1,b2,b3,b4⟩,f0,f1,Un,f3,f4⟩:=Fb A0 (ar.drew.trans x2))
        |(go_at_call 192;refine (qM.o _ (hW.drew.trans x2)).mono ?_;rintro e w3 ⟨a3,c3,rfl,r3,f3',x3⟩;obtain ⟨⟨b0,b1,b2,b3,b4⟩,f0,f1,Un,f3,f4⟩:=Fb A0 ((ar.drew.trans x2).trans x3)))
       all_goals go_wp2_with fail
       all_goals go_roundg (A1+B1)
       all_goals (first
        |(case measure=>omega)
        |(case rel=>exact ⟨A1,B1,a2,a3,c2,c3,bY,hO.le,hO.gcd.trans PB.o,ae,r2.ext x3,r3,((hx.trans hW).drew.trans x2).trans x3,rfl,rfl⟩))
      |false=>
       have q1:A*u0<=B*v0:=by have:=hO.fst;simp only [Bool.false_eq_true,if_false]at this;rw [Nat.mul_comm B,Nat.mul_comm A];omega
       have q2:B*v1<=A*u1:=by have:=hO.snd;simp only [Bool.false_eq_true,if_false]at this;rw [Nat.mul_comm B,Nat.mul_comm A];omega
       have e1:B*v0-A*u0=A1:=by have:=hO.fst;simp only [Bool.false_eq_true,if_false]at this;rw [Nat.mul_comm B,Nat.mul_comm A];omega
       have e2:A*u1-B*v1=B1:=by have:=hO.snd;simp only [Bool.false_eq_true,if_false]at this;rw [Nat.mul_comm B,Nat.mul_comm A];omega
       have hc1:=λV (hV:Ext wr V)=>lS V _ _ _ _ _ _ _ _ v0 u0 (rB.ext hV) (rA.ext hV) ae ae k2 k0 q1;have hc2:=λV (hV:Ext wr V)=>lS V _ _ _ _ _ _ _ _ u1 v1 (rA.ext hV) (rB.ext hV) ae ae k1 k3 q2;rw [e1]at hc1;rw [e2]at hc2;have aak:=df PD;have zq:=ah hc1;have qM:=ah hc2
       clear hc1 hc2 q1 q2 e1 e2;have fT:True:=trivial;go_wp2_with fail
       go_region_held3 (λw'=>w'.cell? ⟨w1.heap.size,0,none⟩=some (.int .u64 u0)/\w'.cell? ⟨w1.heap.size,1,none⟩=some (.int .u64 u1)/\w'.cell? ⟨w1.heap.size,2,none⟩=some (.int .u64 v0)/\w'.cell? ⟨w1.heap.size,3,none⟩=some (.int .u64 v1)) (first|exact ⟨b0,b1,b2,b3⟩|(simp [go_sem,b0,b1,b2,b3])) (first
        |(go_at_call 192;have _t:=fT;refine (zq.o _ (hW.drew)).mono ?_;rintro e w2 ⟨a2,c2,rfl,r2,f2,x2⟩;clear fT _t;obtain ⟨⟨b0,b1,b2,b3,b4⟩,f0,f1,Un,f3,f4⟩:=Fb A0 (ar.drew.trans x2))
        |(go_at_call 192;refine (qM.o _ (hW.drew.trans x2)).mono ?_;rintro e w3 ⟨a3,c3,rfl,r3,f3',x3⟩;obtain ⟨⟨b0,b1,b2,b3,b4⟩,f0,f1,Un,f3,f4⟩:=Fb A0 ((ar.drew.trans x2).trans x3)))
       all_goals go_wp2_with fail
       all_goals go_roundg (A1+B1)
       all_goals (first
        |(case measure=>omega)
        |(case rel=>exact ⟨A1,B1,a2,a3,c2,c3,bY,hO.le,hO.gcd.trans PB.o,ae,r2.ext x3,r3,((hx.trans hW).drew.trans x2).trans x3,rfl,rfl⟩))
