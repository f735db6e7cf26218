/- Texts of the proof. -/
import Derived.Test.YtfokdakioeoniaaGreatCj8
set_option linter.all false
set_option maxHeartbeats 1000000
set_option maxRecDepth 100000
namespace Go.Proofs.YtfokdakioeoniaaGreat
open Go.Proofs.Tryz
open Go.RowKit
theorem Kf (N m b:Nat) (hm:0<m) (hb:b<2):
 (m<=2*(N % m)+b->(2*N+b)/m=2*(N/m)+1/\(2*N+b) % m=2*(N % m)+b-m)/\
 (¬m<=2*(N % m)+b->(2*N+b)/m=2*(N/m)/\(2*N+b) % m=2*(N % m)+b):=by
 have h1:=Nat.div_add_mod N m;have h2:=Nat.mod_lt N hm;generalize N/m=q at*;generalize N % m=r at*;constructor
 .intro h
  have e:2*N+b=(2*r+b-m)+m*(2*q+1):=by
   rw [<-h1,Nat.mul_add m,Nat.mul_left_comm m 2];omega
  rw [e,Nat.add_mul_div_left _ _ hm,Nat.add_mul_mod_self_left,Nat.div_eq_of_lt ae,Nat.mod_eq_of_lt ae];exact ⟨ae,rfl⟩
 .intro h
  have e:2*N+b=(2*r+b)+m*(2*q):=by
   rw [<-h1,Nat.mul_left_comm m 2];omega
  rw [e,Nat.add_mul_div_left _ _ hm,Nat.add_mul_mod_self_left,Nat.div_eq_of_lt ae,Nat.mod_eq_of_lt ae];exact ⟨ae,rfl⟩
theorem LH (n i:Nat):n/2^i=2*(n/2^(i+1))+n/2^i % 2:=by
 rw [Nat.pow_succ,<-Nat.div_div_eq_div_mul];omega
theorem QT {l:List Nat} (hs:Small l) {t:Nat} (ht:t<l.length):limb l t=val l/4294967296^t % 4294967296:=by
 have e:=jI l t ht;have hv:=iK hs (t:=t) ae;rw [e,Nat.add_mul_div_left _ _ (Nat.pow_pos ai),Nat.div_eq_of_lt hv,Nat.zero_add,Nat.add_mul_mod_self_left,Nat.mod_eq_of_lt (bZ hs t)]
theorem QU {l:List Nat} (hs:Small l) {i Q:Nat} (hv:val l=Q*2^(i+1)) (hi:i/32<l.length):
 limb l (i/32)|||2^(i % 32)<4294967296/\val (l.set (i/32) (limb l (i/32)|||2^(i % 32)))=Q*2^(i+1)+2^i:=by
 have hk:i % 32<32:=Nat.mod_lt _ ai;have Xs:=QT hs hi
 have e1:Q*2^(i+1)=4294967296^(i/32)*(Q*2^(i % 32+1)):=by
  rw [pow_eq,Nat.mul_left_comm,<-Nat.pow_add];congr 2;omega
 have e2:2^i=4294967296^(i/32)*2^(i % 32):=by
  rw [pow_eq,<-Nat.pow_add];congr 1;omega
 rw [hv,e1,Nat.mul_div_cancel_left _ (Nat.pow_pos ai)]at Xs;have hval:=yF hi (limb l (i/32)|||2^(i % 32));rw [hv,e1]at hval;rw [e1,e2];generalize i % 32=k at*;generalize i/32=t at*;have e3:(4294967296:Nat)=2^(k+1)*2^(31-k):=by rw [<-Nat.pow_add,show k+1+(31-k)=32 from by omega]
 have e4:limb l t=2^(k+1)*(Q % 2^(31-k)):=by
  rw [Xs];conv=>lhs;rw [e3]
  rw [Nat.mul_comm Q,Nat.mul_mod_mul_left]
 have e5:limb l t|||2^k=limb l t+2^k:=by
  rw [e4,Nat.two_pow_add_eq_or_of_lt (Nat.pow_lt_pow_right ai ae)]
 have h6:=Nat.mod_lt Q (Nat.two_pow_pos (31-k));have h7:=Nat.mul_le_mul_left (2^(k+1)) (show Q % 2^(31-k)+1<=2^(31-k)from h6);rw [<-e3,Nat.mul_add,Nat.mul_one,<-e4]at h7;have h8:2^k<2^(k+1):=Nat.pow_lt_pow_right ai ae;refine ⟨by rw [e5];omega,?_⟩;rw [e5]at hval⊢;rw [Nat.mul_add (4294967296^t)]at hval;omega
theorem fL (w:World) (a:Option Addr) (k c n:Nat) (h:Raw w a k c n):
 Calls prog 161 #[.slice a k c] w (jU n w):=by
 have hR:=h;obtain ⟨l,rfl,rfl,h⟩:=h;have h1:=h.le;have h2:=h.cap;have h3:=h.short;go_enter func161,ntmps161
 go_wp2
 go_loop [3] (λi=> ∃k:Nat,k<=l.length/\val (l.take k)=val l/\i= .int .i64 k) (λi=>(intOf i).toNat)
 case atStart=>exact ⟨_,cG,by rw [List.take_length],rfl⟩
 case round=>
  obtain ⟨k,hk,hv,rfl⟩:=hrel;have HV:=af hv;clear hv
  have fin:len (val l)=k-> ∀v' w',(w'.ownsRow w.heap.size 93 1 v' (0+k) ([]++dC (l.take k)))->Ext w w'->jU (val l) w (.returned v') w':=by
   intro e v' w' ho he;rw [List.nil_append,Nat.zero_add]at ho;obtain ⟨a',c',rfl,_,hL,hF⟩:=Bb ho (h.small.take k) (by rw [List.length_take];omega);refine ⟨a',c',by rw [e],?_,hF,he⟩;rw [e];exact ⟨l.take k,by rw [List.length_take];omega,HV.o,hL⟩
  have Ui:=af fin;clear fin
  by_cases h0:0<k
  .obtain ⟨b,o,rfl⟩:=h.at ae
   have hc:=h.cellAt (k-1) ae;by_cases hz:limb l (k-1)=0
   .have hz':((limb l (k-1):Nat):Int)=0:=ae
    rw [hz']at hc;have HZ:=af hz;clear hz hz'
    go_wp2
    go_round
    case rel=>
     refine ⟨k-1,ae,?_,bq⟩;have:=cd (l:=l) (k:=k-1) ae;rw [HZ.o,show k-1+1=k from ae,HV.o]at this;rw [this];simp
    case measure=>simp [intOf];omega
   .have hz':(((limb l (k-1):Nat):Int)==0)=false:=by rw [beq_eq_false_iff_ne];omega
    have e:len (val l)=k:=by
     rw [<-HV.o];have:=JW (h.small.take k) (by rw [List.length_take];omega) (by rw [List.length_take,Nat.min_eq_left hk,vF ae];exact hz);rw [this,List.length_take,Nat.min_eq_left hk]
    have E:=af e;clear e
    have HZ:=af hz;clear hz
    have hT:=(h.take k hk);go_wp2_with (at_builtin;refine kC _ rfl _ _ 59 rfl w.heap.size 93 (.int .u32 0) 1 4 underlying59 Tryz.info_u32 rfl ai _ 0 [] rfl ?c1 _ k c (dC (l.take k)) rfl ?c2 ?c3 (uy _) ?c4 ?c5 ai ?c6 ?_;rotate_right;intro v' w' ho he hb hz)
    case c1=>exact oC _ _ _ _ cG (aY.alloc w _ [])
    case c2=>rw [jt,List.length_take];omega
    case c3=>
     intro j u hu;obtain ⟨ad,e,hh⟩:=(hT.ext ((Ext.refl w).alloc (.cells #[] 93))).src (by rw [List.length_take];omega);cases e
     have hh':=hh j u hu;by_cases hj:j=0<;>simpa [Addr.add,hj]using hh'
    case c5=>omega
    go_ret;exact Ui.o E.o _ _ ho.o (he.o w (ah.alloc _) cG)
  .obtain rfl:k=0:=ae
   have e:len (val l)=0:=by rw [<-HV.o];rfl
   have E:=af e;clear e
   rcases a with _|⟨b,o⟩
   .have hl0:l.length=0:=by
     rcases Nat.eq_zero_or_pos l.length with e|e
     .exact e
     .obtain ⟨b,o,e'⟩:=h.at e;cases e'
    have hc0:=h.Ni rfl;subst hc0;go_wp2_with (at_builtin;refine kC _ rfl _ _ 59 rfl w.heap.size 93 (.int .u32 0) 1 4 underlying59 Tryz.info_u32 rfl ai _ 0 [] rfl ?d1 _ 0 0 (dC (l.take 0)) rfl ?d2 ?d3 (uy _) ?d4 ?d5 ai ?d6 ?_;rotate_right;intro v' w' ho he hb hz)
    case d1=>exact oC _ _ _ _ cG (aY.alloc w _ [])
    go_ret;exact Ui.o E.o _ _ ho.o (he.o w (ah.alloc _) cG);rfl
   .go_wp2_with (at_builtin;refine kC _ rfl _ _ 59 rfl w.heap.size 93 (.int .u32 0) 1 4 underlying59 Tryz.info_u32 rfl ai _ 0 [] rfl ?e1 _ 0 c (dC (l.take 0)) rfl ?e2 ?e3 (uy _) ?e4 ?e5 ai ?e6 ?_;rotate_right;intro v' w' ho he hb hz)
    case e1=>exact oC _ _ _ _ cG (aY.alloc w _ [])
    go_ret;exact Ui.o E.o _ _ ho.o (he.o w (ah.alloc _) cG);rfl
theorem lQ (w:World) (n:Nat) (hn:n<18446744073709551616):
 Calls prog 86 #[.int .u64 (n:Nat)] w (jU n w):=by
 have hr:Raw (w.alloc (Obj.cells #[.int .u32 ((n:Int) % 4294967296),.int .u32 ((n:Int)/4294967296)] 93)) (some ⟨w.heap.size,0,none⟩) 2 2 n:=by
  have ha:=aY.alloc w 93 (dC [n % 4294967296,n/4294967296]);exact ⟨_,rfl,by simp [val];omega,ha.limbs (Small.append (l:= [_]) (m:= [_]) (Small.one ae) (Small.one ae)) aX⟩
 go_enter func86,ntmps86
 go_wp2_with fail
 refine (fL _ _ _ _ _ hr).mono ?_;rintro e w' ⟨a,c,rfl,h1,h2,h3⟩;go_wp2
 go_ret;exact ⟨_,_,rfl,h1,h2.mono aX,(ah.alloc _).trans h3⟩
theorem j0 (w:World) (a:Option Addr) (k c n:Nat) (h:Raw w a k c n) (hn:n<18446744073709551616):
 Calls prog 239 #[.slice a k c] w λe w'=>e= .returned (.tuple #[.int .u64 (n:Nat),.bool true])/\Ext w w':=by
 have h2:=gA.2 hn;go_enter func239,ntmps239
 go_wp2_with fail
 refine (fL _ _ _ _ _ h).mono ?_;rintro e w' ⟨a',c',rfl,hR,hF,hX⟩;have hE:=af hX;clear hX hn
 obtain ⟨l,hl,rfl,hL⟩:=hR;have hs:=hL.small;rw [<-hl]at h2⊢;clear hl;rcases l with _|⟨x,_|⟨y,_|⟨z,l⟩⟩⟩
 .have h:=hL
  go_wp2
  refine wp_loop_rounds 1 ?_;rw [rounds_succ]
  go_wp2
  go_ret2
  exact ⟨rfl,hE.o⟩
 .have h:=hL
  obtain ⟨b,o,rfl⟩:=h.at aX;have hc:=h.cellAt 0 aX;have hx:=hs x aX;simp [limb]at hc;go_wp2
  refine wp_loop_rounds 2 ?_;rw [rounds_succ]
  go_wp2
  rw [rounds_succ];go_wp2
  go_ret2
  refine ⟨?_,hE.o⟩;simp [Array.getD,val];exact or_zero x ae
 .have h:=hL
  obtain ⟨b,o,rfl⟩:=h.at aX;have hc:=h.cellAt 0 aX;have hc1:=h.cellAt 1 aX;have hx:=hs x aX;have hy:=hs y aX;simp [limb]at hc hc1;go_wp2
  refine wp_loop_rounds 3 ?_;rw [rounds_succ]
  go_wp2
  rw [rounds_succ];go_wp2
  rw [rounds_succ];go_wp2
  go_ret2
  refine ⟨?_,hE.o⟩;simp [Array.getD,val];rw [or_zero y ae]
  have e:IntKind.u64.wrap ((y:Int)*4294967296)=(y:Int)*4294967296:=by
   rw [IntKind.wrap_u64];omega
  rw [e,EP y x hy hx];omega
 .simp at h2
theorem uO (w:World) (a:Option Addr) (k c n:Nat) (h:Raw w a k c n) (hn:18446744073709551616<=n):
 Calls prog 239 #[.slice a k c] w λe w'=>e= .returned (.tuple #[.int .u64 0,.bool false])/\Ext w w':=by
 have h2:2<len n:=dB (@gA n);have hl:=h.cut.le;go_enter func239,ntmps239
 go_wp2_with fail
 refine (fL _ _ _ _ _ h).mono ?_;rintro e w' ⟨a',c',rfl,hR,hF,hX⟩;have hE:=af hX;clear hX hn
 go_wp2
 go_ret2
 exact ⟨rfl,hE.o⟩
theorem zy (w:World) (a b:Option Addr) (k k' c c' n m:Nat) (ha:Raw w a k c n) (hb:Raw w b k' c' m):
 Calls prog 277 #[.slice a k c,.slice b k' c'] w λe w'=>e= .returned (.int .i64 (gp n m))/\Ext w w':=by
 go_enter func277,ntmps277
 go_wp2_with fail
 refine (fL _ _ _ _ _ ha).mono ?_;rintro e w1 ⟨a1,c1,rfl,ZZ,SM,NR⟩;go_wp2_with fail
 refine (fL _ _ _ _ _ (hb.ext NR)).mono ?_;rintro e w2 ⟨b1,d1,rfl,Bp,hF2,Qk⟩;have ha':=ZZ.ext Qk;have hb':=Bp;have la:=ha'.le;have lb:=hb'.le;have HX:=af (NR.trans Qk);by_cases hne:len n=len m
 .obtain ⟨l,hl,hv,hA⟩:=ha'
  obtain ⟨l',hl',hv',hB⟩:=hb';have s1:=hA.small;have s2:=hB.small;have Ie:(((len n:Nat):Int) !=((len m:Nat):Int))=false:=by simp [hne]
  rw [<-hne]at hl' lb Ie;have HL:=af hl;have ml:=af hl';have HV:=af hv;have CV:=af hv';have HN:=af hne
  clear hl hl' hv hv' hne;rw [<-HN.o];go_wp2
  go_loopw [5] (λi wr=> ∃j:Nat,j<=len n/\l.drop j=l'.drop j/\i= .int .i64 ((j:Int)-1)/\Quiet w2 wr) (λi _=>(intOf i+1).toNat)
  case atStart=>exact ⟨len n,cG,by rw [List.drop_of_length_le (by rw [HL.o];exact cG),List.drop_of_length_le (by rw [ml.o];exact cG)],rfl,Quiet.refl _⟩
  case round=>
   obtain ⟨j,hj,hd,rfl,hq⟩:=hrel;have HD:=af hd;clear hd
   by_cases h0:0<j
   .obtain ⟨i,rfl⟩: ∃i,j=i+1:=⟨j-1,ae⟩
    rw [show(((i+1:Nat):Int)-1)=(i:Int)from by omega];obtain ⟨p,o,rfl⟩:=hA.at (by rw [HL.o];omega);obtain ⟨p',o',rfl⟩:=hB.at (by rw [ml.o];omega);have hc:=(hA.ext hq.ext).cellAt i (by rw [HL.o];omega);have hc':=(hB.ext hq.ext).cellAt i (by rw [ml.o];omega);have hx:=bZ s1 i;have hy:=bZ s2 i;have g1:(i:Int)<(len n:Int):=ae;have g2:(0:Int)<=(i:Int):=ae;by_cases c1:limb l i<limb l' i
    .have d1:decide (((limb l i:Nat):Int)<((limb l' i:Nat):Int))=true:=by simp;omega
     go_wp2
     go_quiet (fail)
     go_wp2
     go_ret;refine ⟨cL ?_,HX.o.trans (hq.drewN _).ext⟩;have:=rT s1 (k:=i) (by rw [HL.o];omega) (by rw [ml.o];omega) (by rw [HD.o]) c1;rw [HV.o,CV.o]at this;unfold gp;rw [if_pos this]
    .by_cases c2:limb l' i<limb l i
     .have d1:decide (((limb l i:Nat):Int)<((limb l' i:Nat):Int))=false:=by simp;omega
      have d2:decide (((limb l' i:Nat):Int)<((limb l i:Nat):Int))=true:=by simp;omega
      go_wp2
      go_quiet (fail)
      go_wp2
      go_quiet (fail)
      go_wp2
      go_ret;refine ⟨cL ?_,HX.o.trans ((hq.drewN _).drewN _).ext⟩;have:=rT s2 (k:=i) (by rw [ml.o];omega) (by rw [HL.o];omega) (by rw [HD.o]) c2;rw [HV.o,CV.o]at this;unfold gp;rw [if_neg ae,if_neg ae]
     .have d1:decide (((limb l i:Nat):Int)<((limb l' i:Nat):Int))=false:=by simp;omega
      have d2:decide (((limb l' i:Nat):Int)<((limb l i:Nat):Int))=false:=by simp;omega
      go_wp2
      go_quiet (fail)
      go_wp2
      go_quiet (fail)
      go_wp2
      go_roundw
      case rel=>
           refine ⟨i,ae,?_,rfl,hq.drewN _⟩;have e1:limb l i=limb l' i:=ae;have e2:i<l.length:=by rw [HL.o];omega
           have e3:i<l'.length:=by rw [ml.o];omega
           rw [List.drop_eq_getElem_cons e2,List.drop_eq_getElem_cons e3,HD.o];simp only [limb,List.getElem?_eq_getElem e2,List.getElem?_eq_getElem e3,Option.getD_some]at e1;rw [e1]
      case measure=>simp [intOf]
   .obtain rfl:j=0:=ae
    go_wp2
    go_ret;refine ⟨cL ?_,HX.o.trans hq.ext⟩;have:n=m:=by rw [<-HV.o,<-CV.o];have:=HD.o;simp at this;rw [this]
    unfold gp;rw [if_neg ae,if_pos this]
 .have Ie:(((len n:Nat):Int) !=((len m:Nat):Int))=true:=by simp;omega
  by_cases hlt:len n<len m
  .go_wp2
   go_ret;refine ⟨cL ?_,HX.o⟩
   have:n<m:=by
    apply Nat.lt_of_not_le;intro h;have:=dt h;omega
   unfold gp;rw [if_pos this]
  .go_wp2
   go_ret;refine ⟨cL ?_,HX.o⟩
   have:m<n:=by
    apply Nat.lt_of_not_le;intro h;have:=dt h;omega
   unfold gp;rw [if_neg ae,if_neg ae]
theorem Fm (w:World) (a b:Option Addr) (c c':Nat) (l l':List Nat) (hA:fN w a c l) (hB:fN w b c' l'):
 Calls prog 81 #[.slice a l.length c,.slice b l'.length c'] w λe w'=>e= .returned (.bool (decide (l=l')))/\Quiet w w':=by
 have s1:=hA.small;have s2:=hB.small;have h1:=hA.le;have h2:=hA.short;have h3:=hB.short;by_cases hne:l.length=l'.length
 .have Ie:(((l.length:Nat):Int) !=((l'.length:Nat):Int))=false:=by simp [hne]
  have HN:=af hne;clear hne
  go_enter func81,ntmps81
  go_wp2
  go_loopw [5] (λi wr=> ∃j:Nat,j<=l.length/\l.take j=l'.take j/\i= .int .i64 (j:Int)/\Quiet w wr) (λi _=>l.length-(intOf i).toNat)
  case atStart=>exact ⟨0,bm,aX,rfl,Quiet.refl _⟩
  case round=>
   obtain ⟨j,hj,hd,rfl,hq⟩:=hrel;have HD:=af hd;clear hd
   by_cases h0:j<l.length
   .obtain ⟨p,o,rfl⟩:=hA.at ae
    obtain ⟨p',o',rfl⟩:=hB.at (by rw [<-HN.o];omega);have hc:=(hA.ext hq.ext).cellAt j ae;have hc':=(hB.ext hq.ext).cellAt j (by rw [<-HN.o];omega);have g1:(j:Int)<(l.length:Int):=ae;have g1':(j:Int)<(l'.length:Int):=by rw [<-HN.o];omega
    have g2:(0:Int)<=(j:Int):=ae;by_cases c1:limb l j=limb l' j
    .have d1:(((limb l j:Nat):Int) !=((limb l' j:Nat):Int))=false:=by simp;omega
     go_wp2
     go_quiet (fail)
     go_wp2
     go_roundw
     case rel=>
      refine ⟨j+1,ae,?_,bq,hq.drewN _⟩;rw [vG h0,vG (by rw [<-HN.o];exact h0),HD.o,c1]
     case measure=>simp [intOf];omega
    .have d1:(((limb l j:Nat):Int) !=((limb l' j:Nat):Int))=true:=by simp;omega
     go_wp2
     go_quiet (fail)
     go_wp2
     go_ret
     have:decide (l=l')=false:=by
      rw [decide_eq_false_iff_not];intro e;exact c1 (by rw [e])
     exact ⟨by rw [this];rfl,hq.drewN _⟩
   .obtain rfl:j=l.length:=ae
    go_wp2
    go_ret
    have:decide (l=l')=true:=by
     rw [decide_eq_true_iff];have:=HD.o;rwa [List.take_length,HN.o,List.take_length]at this
    exact ⟨by rw [this];rfl,hq⟩
 .have Ie:(((l.length:Nat):Int) !=((l'.length:Nat):Int))=true:=by simp;omega
  go_enter func81,ntmps81
  go_wp2
  go_ret
  have:decide (l=l')=false:=by
   rw [decide_eq_false_iff_not];intro e;exact hne (by rw [e])
  exact ⟨by rw [this];rfl,Quiet.refl _⟩
theorem qQ (l:List Nat) (k:Nat):val (l.take (k+1))=val (l.take k)+4294967296^k*limb l k:=by
 by_cases h:k<l.length
 .exact cd h
 .rw [List.take_of_length_le ae,List.take_of_length_le ae,gK ae];simp
theorem Cb {L M r:List Nat} {i cy:Nat} (hr:r.length=i) (hv:val r+4294967296^i*cy=val (L.take i)+val (M.take i)):
 val (r++ [(cy+limb L i+limb M i) % 4294967296])+4294967296^(i+1)*((cy+limb L i+limb M i)/4294967296)=val (L.take (i+1))+val (M.take (i+1)):=by
 rw [cY,fD,hr,qQ L,qQ M,Nat.pow_succ,Nat.mul_assoc];generalize 4294967296^i=p at*
 have e2:p*((cy+limb L i+limb M i) % 4294967296)+p*(4294967296*((cy+limb L i+limb M i)/4294967296))=p*cy+p*limb L i+p*limb M i:=by
  rw [<-Nat.mul_add,Nat.mod_add_div,Nat.mul_add,Nat.mul_add]
 omega
theorem zA {w:World} {b K j:Nat} {T:TypeId} {r:List Nat} (h:aY w b T (dC (r++List.replicate (K-j) 0))) (hr:r.length=j) (hj:j<K) (x:Nat):aY (w.setCell ⟨b,j,none⟩ (.int .u32 (x:Nat))) b T (dC ((r++ [x])++List.replicate (K-(j+1)) 0)):=by
 have:=h.set j (.int .u32 (x:Nat));rw [gz,List.set_append_right _ _ (by rw [hr];exact cG),hr,Nat.sub_self,show K-j=(K-(j+1))+1 from ae,List.replicate_succ,List.set_cons_zero]at this;rw [List.append_assoc];exact this
theorem zB {w:World} {b K j:Nat} {T:TypeId} {r:List Nat} (h:aY w b T (dC (r++List.replicate (K-j) 0))) (hr:r.length=j) (hj:j<K):w.cell? ⟨b,j,none⟩=some (.int .u32 0):=by
 rw [h.cell,fu _ _ (by simp [hr];omega)];simp [limb,hr,show 0<K-j from by omega]
theorem carry_zero {l l':List Nat} (s1:Small l) (s2:Small l') {M q x:Nat} (h1:l.length<=M) (h2:l'.length<=M) (hv:x+4294967296^(M+1)*q=val l+val l'):q=0:=by
 have v1:=kA s1;have v2:=kA s2;have p1:=Nat.pow_le_pow_right (show 0<4294967296 by decide) h1;have p2:=Nat.pow_le_pow_right (show 0<4294967296 by decide) h2;rcases Nat.eq_zero_or_pos q with e|e
 .exact e
 .rw [Nat.pow_succ]at hv
  generalize 4294967296^M=z at*;have:=Nat.le_mul_of_pos_right (z*4294967296) e;omega
theorem Kh {wr:World} {b:Nat} {T:TypeId} {l l' r:List Nat} (s1:Small l) (s2:Small l') {M q:Nat} (h1:l.length<=M) (h2:l'.length<=M) (hM:M<1000000000) (hr:r.length=M+1) (hs:Small r)
 (hv:val r+4294967296^(M+1)*q=val (l.take (M+1))+val (l'.take (M+1))) (dI:aY wr b T (dC (r++List.replicate (M+1-(M+1)) 0))):Raw wr (some ⟨b,0,none⟩) (M+1) (M+1) (val l+val l'):=by
 rw [List.take_of_length_le ae,List.take_of_length_le ae]at hv;rw [carry_zero s1 s2 h1 h2 hv,Nat.mul_zero,Nat.add_zero]at hv;rw [Nat.sub_self,List.replicate_zero,List.append_nil]at dI;have h4:=dI.limbs hs (by rw [hr];omega);rw [hr]at h4;exact ⟨r,hr,hv,h4⟩
theorem tX (w:World) (a b:Option Addr) (k k' c c' n m:Nat) (ha:Raw w a k c n) (hb:Raw w b k' c' m) (hk:k<1000000000) (qJ:k'<1000000000):
 Calls prog 223 #[.slice a k c,.slice b k' c'] w (jU (n+m) w):=by
 obtain ⟨l,rfl,rfl,hA⟩:=ha;obtain ⟨l',rfl,rfl,hB⟩:=hb;have s1:=hA.small;have s2:=hB.small;by_cases hlt:l.length<l'.length
 .go_enter func223,ntmps223
  go_wp2_with (at_make;refine bU _ rfl _ _ 59 rfl 93 (.int .u32 0) 4 underlying59 Tryz.info_u32 rfl _ _ (l'.length+1) rfl rfl bq bq ae ae ?_;intro w1 kR hx1 hz1)
  go_loopw [6,7] (λcy i wr=> ∃(j q:Nat) (r:List Nat),j<=l'.length+1/\Hid (r.length=j)/\Small r/\q<=1/\Hid (val r+4294967296^j*q=val (l.take j)+val (l'.take j))/\Hid (aY wr w.heap.size 93 (dC (r++List.replicate (l'.length+1-j) 0)))/\Ext w wr/\cy= .int .u64 q/\i= .int .i64 j) (λ_ i _=>l'.length+1-(intOf i).toNat)
  case atStart=>exact ⟨0,0,[],bm,rfl,Small.nil,bm,rfl,by have:=kR.o;rw [dv]at this;exact this,hx1,rfl,rfl⟩
  case round=>
   obtain ⟨j,q,r,hj,hr,hs,hq,hval,dI,dU,rfl,rfl⟩:=hrel;by_cases h0:j<l'.length+1
   .have hst:=zB dI.o hr.o h0
    have qG:=dI.o.frozen j;have HN:=af (λx=>zA dI.o hr.o h0 x);have ik:=af (Cb (L:=l) (M:=l') (cy:=q) (i:=j) hr.o hval.o);have hx:=bZ s1 j;have hy:=bZ s2 j;by_cases h1:j<l.length
    .by_cases h2:j<l'.length
     .obtain ⟨p,o,rfl⟩:=hA.at ae
      have hc:=(hA.ext dU).cellAt j ae;obtain ⟨p',o',rfl⟩:=hB.at ae;have hc':=(hB.ext dU).cellAt j ae;go_wp2
      go_roundw
      case rel=>
       have ik:=ik.o;refine ⟨j+1,(q+limb l j+limb l' j)/4294967296,r++ [(q+limb l j+limb l' j) % 4294967296],ae,(show _=_ by simp [hr.o]),hs.append (Small.one (Nat.mod_lt _ ai)),ae,ik,HN.o _,dU.setCell cG _,?_,?_⟩<;>go_num
      case measure=>simp [intOf];omega
     .exfalso;omega
    .by_cases h2:j<l'.length
     .have e1:=af (gK (l:=l) (i:=j) ae)
      obtain ⟨p',o',rfl⟩:=hB.at ae;have hc':=(hB.ext dU).cellAt j ae;go_wp2
      go_roundw
      case rel=>
       have ik:=ik.o;rw [e1.o,Nat.add_zero]at ik;refine ⟨j+1,(q+limb l' j)/4294967296,r++ [(q+limb l' j) % 4294967296],ae,(show _=_ by simp [hr.o]),hs.append (Small.one (Nat.mod_lt _ ai)),ae,ik,HN.o _,dU.setCell cG _,?_,?_⟩<;>go_num
      case measure=>simp [intOf];omega
     .have e1:=af (gK (l:=l) (i:=j) ae)
      have e2:=af (gK (l:=l') (i:=j) ae);go_wp2
      go_roundw
      case rel=>
       have ik:=ik.o;rw [e1.o,Nat.add_zero]at ik;rw [e2.o,Nat.add_zero]at ik;rw [Nat.mod_eq_of_lt (show q<4294967296 by omega)]at ik;refine ⟨j+1,q/4294967296,r++ [q],ae,(show _=_ by simp [hr.o]),hs.append (Small.one ae),ae,ik,HN.o _,dU.setCell cG _,?_,?_⟩<;>go_num
      case measure=>simp [intOf];omega
   .obtain rfl:j=l'.length+1:=ae
    have HR:=af (Kh s1 s2 (M:=l'.length) ae ae ae hr.o hs hval.o dI.o);clear hval;go_wp2_with fail
    refine (fL _ _ _ _ _ HR.o).mono ?_;rintro e w' ⟨a',c',rfl,hR,hF,hX⟩;go_wp2
    go_ret;exact ⟨_,_,rfl,hR,hF.mono dU.size,dU.trans hX⟩
 .go_enter func223,ntmps223
  go_wp2_with (at_make;refine bU _ rfl _ _ 59 rfl 93 (.int .u32 0) 4 underlying59 Tryz.info_u32 rfl _ _ (l.length+1) rfl rfl bq bq ae ae ?_;intro w1 kR hx1 hz1)
  go_loopw [6,7] (λcy i wr=> ∃(j q:Nat) (r:List Nat),j<=l.length+1/\Hid (r.length=j)/\Small r/\q<=1/\Hid (val r+4294967296^j*q=val (l.take j)+val (l'.take j))/\Hid (aY wr w.heap.size 93 (dC (r++List.replicate (l.length+1-j) 0)))/\Ext w wr/\cy= .int .u64 q/\i= .int .i64 j) (λ_ i _=>l.length+1-(intOf i).toNat)
  case atStart=>exact ⟨0,0,[],bm,rfl,Small.nil,bm,rfl,by have:=kR.o;rw [dv]at this;exact this,hx1,rfl,rfl⟩
  case round=>
   obtain ⟨j,q,r,hj,hr,hs,hq,hval,dI,dU,rfl,rfl⟩:=hrel;by_cases h0:j<l.length+1
   .have hst:=zB dI.o hr.o h0
    have qG:=dI.o.frozen j;have HN:=af (λx=>zA dI.o hr.o h0 x);have ik:=af (Cb (L:=l) (M:=l') (cy:=q) (i:=j) hr.o hval.o);have hx:=bZ s1 j;have hy:=bZ s2 j;by_cases h1:j<l.length
    .by_cases h2:j<l'.length
     .obtain ⟨p,o,rfl⟩:=hA.at ae
      have hc:=(hA.ext dU).cellAt j ae;obtain ⟨p',o',rfl⟩:=hB.at ae;have hc':=(hB.ext dU).cellAt j ae;go_wp2
      go_roundw
      case rel=>
       have ik:=ik.o;refine ⟨j+1,(q+limb l j+limb l' j)/4294967296,r++ [(q+limb l j+limb l' j) % 4294967296],ae,(show _=_ by simp [hr.o]),hs.append (Small.one (Nat.mod_lt _ ai)),ae,ik,HN.o _,dU.setCell cG _,?_,?_⟩<;>go_num
      case measure=>simp [intOf];omega
     .have e2:=af (gK (l:=l') (i:=j) ae)
      obtain ⟨p,o,rfl⟩:=hA.at ae;have hc:=(hA.ext dU).cellAt j ae;go_wp2
      go_roundw
      case rel=>
       have ik:=ik.o;rw [e2.o,Nat.add_zero]at ik;refine ⟨j+1,(q+limb l j)/4294967296,r++ [(q+limb l j) % 4294967296],ae,(show _=_ by simp [hr.o]),hs.append (Small.one (Nat.mod_lt _ ai)),ae,ik,HN.o _,dU.setCell cG _,?_,?_⟩<;>go_num
      case measure=>simp [intOf];omega
    .by_cases h2:j<l'.length
     .exfalso;omega
     .have e1:=af (gK (l:=l) (i:=j) ae)
      have e2:=af (gK (l:=l') (i:=j) ae);go_wp2
      go_roundw
      case rel=>
       have ik:=ik.o;rw [e1.o,Nat.add_zero]at ik;rw [e2.o,Nat.add_zero]at ik;rw [Nat.mod_eq_of_lt (show q<4294967296 by omega)]at ik;refine ⟨j+1,q/4294967296,r++ [q],ae,(show _=_ by simp [hr.o]),hs.append (Small.one ae),ae,ik,HN.o _,dU.setCell cG _,?_,?_⟩<;>go_num
      case measure=>simp [intOf];omega
   .obtain rfl:j=l.length+1:=ae
    have HR:=af (Kh s1 s2 (M:=l.length) ae ae ae hr.o hs hval.o dI.o);clear hval;go_wp2_with fail
    refine (fL _ _ _ _ _ HR.o).mono ?_;rintro e w' ⟨a',c',rfl,hR,hF,hX⟩;go_wp2
    go_ret;exact ⟨_,_,rfl,hR,hF.mono dU.size,dU.trans hX⟩
