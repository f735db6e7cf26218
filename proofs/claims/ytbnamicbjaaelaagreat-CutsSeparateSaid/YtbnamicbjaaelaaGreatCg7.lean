/- Texts of the proof. -/
import Derived.Test.YtbnamicbjaaelaaGreatCg6
set_option linter.all false
set_option maxHeartbeats 4000000
set_option maxRecDepth 100000
namespace Go.Proofs.YtbnamicbjaaelaaGreat
open Go.Proofs.Tryz
open Go.RowKit
theorem GZ (N m b:Nat) (hm:0<m) (hb:b<2):
 (m<=2*(N % m)+b->(2*N+b)/m=2*(N/m)+1/\(2*N+b) % m=2*(N % m)+b-m)/\
 (¬m<=2*(N % m)+b->(2*N+b)/m=2*(N/m)/\(2*N+b) % m=2*(N % m)+b):=by
 have h1:=Nat.div_add_mod N m;have h2:=Nat.mod_lt N hm;generalize N/m=q at*;generalize N % m=r at*;constructor
 .intro h
  have e:2*N+b=(2*r+b-m)+m*(2*q+1):=by
   rw [<-h1,Nat.mul_add m,Nat.mul_left_comm m 2];omega
  rw [e,Nat.add_mul_div_left _ _ hm,Nat.add_mul_mod_self_left,Nat.div_eq_of_lt ae,Nat.mod_eq_of_lt ae];exact ⟨ae,rfl⟩
 .intro h
  have e:2*N+b=(2*r+b)+m*(2*q):=by
   rw [<-h1,Nat.mul_left_comm m 2];omega
  rw [e,Nat.add_mul_div_left _ _ hm,Nat.add_mul_mod_self_left,Nat.div_eq_of_lt ae,Nat.mod_eq_of_lt ae];exact ⟨ae,rfl⟩
theorem IE (n i:Nat):n/2^i=2*(n/2^(i+1))+n/2^i % 2:=by
 rw [Nat.pow_succ,<-Nat.div_div_eq_div_mul];omega
theorem N1 {l:List Nat} (hs:Small l) {t:Nat} (ht:t<l.length):limb l t=val l/4294967296^t % 4294967296:=by
 have e:=iE l t ht;have hv:=gH hs (t:=t) ae;rw [e,Nat.add_mul_div_left _ _ (Nat.pow_pos aq),Nat.div_eq_of_lt hv,Nat.zero_add,Nat.add_mul_mod_self_left,Nat.mod_eq_of_lt (bQ hs t)]
theorem N2 {l:List Nat} (hs:Small l) {i Q:Nat} (hv:val l=Q*2^(i+1)) (hi:i/32<l.length):
 limb l (i/32)|||2^(i % 32)<4294967296/\val (l.set (i/32) (limb l (i/32)|||2^(i % 32)))=Q*2^(i+1)+2^i:=by
 have hk:i % 32<32:=Nat.mod_lt _ aq;have UB:=N1 hs hi
 have e1:Q*2^(i+1)=4294967296^(i/32)*(Q*2^(i % 32+1)):=by
  rw [pow_eq,Nat.mul_left_comm,<-Nat.pow_add];congr 2;omega
 have e2:2^i=4294967296^(i/32)*2^(i % 32):=by
  rw [pow_eq,<-Nat.pow_add];congr 1;omega
 rw [hv,e1,Nat.mul_div_cancel_left _ (Nat.pow_pos aq)]at UB;have hval:=vK hi (limb l (i/32)|||2^(i % 32));rw [hv,e1]at hval;rw [e1,e2];generalize i % 32=k at*;generalize i/32=t at*;have e3:(4294967296:Nat)=2^(k+1)*2^(31-k):=by rw [<-Nat.pow_add,show k+1+(31-k)=32 from by omega]
 have e4:limb l t=2^(k+1)*(Q % 2^(31-k)):=by
  rw [UB];conv=>lhs;rw [e3]
  rw [Nat.mul_comm Q,Nat.mul_mod_mul_left]
 have e5:limb l t|||2^k=limb l t+2^k:=by
  rw [e4,Nat.two_pow_add_eq_or_of_lt (Nat.pow_lt_pow_right aq ae)]
 have h6:=Nat.mod_lt Q (Nat.two_pow_pos (31-k));have h7:=Nat.mul_le_mul_left (2^(k+1)) (show Q % 2^(31-k)+1<=2^(31-k)from h6);rw [<-e3,Nat.mul_add,Nat.mul_one,<-e4]at h7;have h8:2^k<2^(k+1):=Nat.pow_lt_pow_right aq ae;refine ⟨by rw [e5];omega,?_⟩;rw [e5]at hval⊢;rw [Nat.mul_add (4294967296^t)]at hval;omega
theorem eQ (w:World) (a:Option Addr) (k c n:Nat) (h:Raw w a k c n):
 Calls prog 166 #[.slice a k c] w (iL n w):=by
 have hR:=h;obtain ⟨l,rfl,rfl,h⟩:=h;have h1:=h.le;have h2:=h.cap;have h3:=h.short;go_enter func166,ntmps166
 go_wp2
 go_loop [3] (λi=> ∃k:Nat,k<=l.length/\val (l.take k)=val l/\i= .int .i64 k) (λi=>(intOf i).toNat)
 case atStart=>exact ⟨_,bY,by rw [List.take_length],rfl⟩
 case round=>
  obtain ⟨k,hk,hv,rfl⟩:=hrel;have HV:=ah hv;clear hv
  have fin:len (val l)=k-> ∀v' w',(w'.ownsRow w.heap.size 142 1 v' (0+k) ([]++dr (l.take k)))->Ext w w'->iL (val l) w (.returned v') w':=by
   intro e v' w' ho he;rw [List.nil_append,Nat.zero_add]at ho;obtain ⟨a',c',rfl,_,hL,hF⟩:=yA ho (h.small.take k) (by rw [List.length_take];omega);refine ⟨a',c',by rw [e],?_,hF,he⟩;rw [e];exact ⟨l.take k,by rw [List.length_take];omega,HV.o,hL⟩
  have Q8:=ah fin;clear fin
  by_cases h0:0<k
  .obtain ⟨b,o,rfl⟩:=h.at ae
   have hc:=h.cellAt (k-1) ae;by_cases hz:limb l (k-1)=0
   .have hz':((limb l (k-1):Nat):Int)=0:=ae
    rw [hz']at hc;have HZ:=ah hz;clear hz hz'
    go_wp2
    go_round
    case rel=>
     refine ⟨k-1,ae,?_,bf⟩;have:=bT (l:=l) (k:=k-1) ae;rw [HZ.o,show k-1+1=k from ae,HV.o]at this;rw [this];simp
    case measure=>simp [intOf];omega
   .have hz':(((limb l (k-1):Nat):Int)==0)=false:=by rw [beq_eq_false_iff_ne];omega
    have e:len (val l)=k:=by
     rw [<-HV.o];have:=GM (h.small.take k) (by rw [List.length_take];omega) (by rw [List.length_take,Nat.min_eq_left hk,tE ae];exact hz);rw [this,List.length_take,Nat.min_eq_left hk]
    have E:=ah e;clear e
    have HZ:=ah hz;clear hz
    have hT:=(h.take k hk);go_wp2_with (at_builtin;refine ju _ rfl _ _ 88 rfl w.heap.size 142 (.int .u32 0) 1 4 underlying88 Tryz.info_u32 rfl aq _ 0 [] rfl ?c1 _ k c (dr (l.take k)) rfl ?c2 ?c3 (qQ _) ?c4 ?c5 aq ?c6 ?_;rotate_right;intro v' w' ho he hb hz)
    case c1=>exact mm _ _ _ _ bY (aT.alloc w _ [])
    case c2=>rw [ir,List.length_take];omega
    case c3=>
     intro j u hu;obtain ⟨ad,e,hh⟩:=(hT.ext ((Ext.refl w).alloc (.cells #[] 142))).src (by rw [List.length_take];omega);cases e
     have hh':=hh j u hu;by_cases hj:j=0<;>simpa [Addr.add,hj]using hh'
    case c5=>omega
    go_ret;exact Q8.o E.o _ _ ho.o (he.o w (ar.alloc _) bY)
  .obtain rfl:k=0:=ae
   have e:len (val l)=0:=by rw [<-HV.o];rfl
   have E:=ah e;clear e
   rcases a with _|⟨b,o⟩
   .have hl0:l.length=0:=by
     rcases Nat.eq_zero_or_pos l.length with e|e
     .exact e
     .obtain ⟨b,o,e'⟩:=h.at e;cases e'
    have hc0:=h.Kq rfl;subst hc0;go_wp2_with (at_builtin;refine ju _ rfl _ _ 88 rfl w.heap.size 142 (.int .u32 0) 1 4 underlying88 Tryz.info_u32 rfl aq _ 0 [] rfl ?d1 _ 0 0 (dr (l.take 0)) rfl ?d2 ?d3 (qQ _) ?d4 ?d5 aq ?d6 ?_;rotate_right;intro v' w' ho he hb hz)
    case d1=>exact mm _ _ _ _ bY (aT.alloc w _ [])
    go_ret;exact Q8.o E.o _ _ ho.o (he.o w (ar.alloc _) bY);rfl
   .go_wp2_with (at_builtin;refine ju _ rfl _ _ 88 rfl w.heap.size 142 (.int .u32 0) 1 4 underlying88 Tryz.info_u32 rfl aq _ 0 [] rfl ?e1 _ 0 c (dr (l.take 0)) rfl ?e2 ?e3 (qQ _) ?e4 ?e5 aq ?e6 ?_;rotate_right;intro v' w' ho he hb hz)
    case e1=>exact mm _ _ _ _ bY (aT.alloc w _ [])
    go_ret;exact Q8.o E.o _ _ ho.o (he.o w (ar.alloc _) bY);rfl
theorem jX (w:World) (n:Nat) (hn:n<18446744073709551616):
 Calls prog 142 #[.int .u64 (n:Nat)] w (iL n w):=by
 have hr:Raw (w.alloc (Obj.cells #[.int .u32 ((n:Int) % 4294967296),.int .u32 ((n:Int)/4294967296)] 142)) (some ⟨w.heap.size,0,none⟩) 2 2 n:=by
  have ha:=aT.alloc w 142 (dr [n % 4294967296,n/4294967296]);exact ⟨_,rfl,by simp [val];omega,ha.limbs (Small.append (l:= [_]) (m:= [_]) (Small.one ae) (Small.one ae)) aG⟩
 go_enter func142,ntmps142
 go_wp2_with fail
 refine (eQ _ _ _ _ _ hr).mono ?_;rintro e w' ⟨a,c,rfl,h1,h2,h3⟩;go_wp2
 go_ret;exact ⟨_,_,rfl,h1,h2.mono aG,(ar.alloc _).trans h3⟩
theorem jY (w:World) (a:Option Addr) (k c n:Nat) (h:Raw w a k c n) (hn:n<18446744073709551616):
 Calls prog 188 #[.slice a k c] w λe w'=>e= .returned (.tuple #[.int .u64 (n:Nat),.bool true])/\Ext w w':=by
 have h2:=fS.2 hn;go_enter func188,ntmps188
 go_wp2_with fail
 refine (eQ _ _ _ _ _ h).mono ?_;rintro e w' ⟨a',c',rfl,hR,hF,hX⟩;have hE:=ah hX;clear hX hn
 obtain ⟨l,hl,rfl,hL⟩:=hR;have hs:=hL.small;rw [<-hl]at h2⊢;clear hl;rcases l with _|⟨x,_|⟨y,_|⟨z,l⟩⟩⟩
 .have h:=hL
  go_wp2
  refine wp_loop_rounds 1 ?_;rw [rounds_succ]
  go_wp2
  go_ret2
  exact ⟨rfl,hE.o⟩
 .have h:=hL
  obtain ⟨b,o,rfl⟩:=h.at aG;have hc:=h.cellAt 0 aG;have hx:=hs x aG;simp [limb]at hc;go_wp2
  refine wp_loop_rounds 2 ?_;rw [rounds_succ]
  go_wp2
  rw [rounds_succ];go_wp2
  go_ret2
  refine ⟨?_,hE.o⟩;simp [Array.getD,val];exact or_zero x ae
 .have h:=hL
  obtain ⟨b,o,rfl⟩:=h.at aG;have hc:=h.cellAt 0 aG;have hc1:=h.cellAt 1 aG;have hx:=hs x aG;have hy:=hs y aG;simp [limb]at hc hc1;go_wp2
  refine wp_loop_rounds 3 ?_;rw [rounds_succ]
  go_wp2
  rw [rounds_succ];go_wp2
  rw [rounds_succ];go_wp2
  go_ret2
  refine ⟨?_,hE.o⟩;simp [Array.getD,val];rw [or_zero y ae]
  have e:IntKind.u64.wrap ((y:Int)*4294967296)=(y:Int)*4294967296:=by
   rw [IntKind.wrap_u64];omega
  rw [e,Cu y x hy hx];omega
 .simp at h2
theorem rJ (w:World) (a:Option Addr) (k c n:Nat) (h:Raw w a k c n) (hn:18446744073709551616<=n):
 Calls prog 188 #[.slice a k c] w λe w'=>e= .returned (.tuple #[.int .u64 0,.bool false])/\Ext w w':=by
 have h2:2<len n:=bA (@fS n);have hl:=h.cut.le;go_enter func188,ntmps188
 go_wp2_with fail
 refine (eQ _ _ _ _ _ h).mono ?_;rintro e w' ⟨a',c',rfl,hR,hF,hX⟩;have hE:=ah hX;clear hX hn
 go_wp2
 go_ret2
 exact ⟨rfl,hE.o⟩
theorem wT (w:World) (a b:Option Addr) (k k' c c' n m:Nat) (ha:Raw w a k c n) (hb:Raw w b k' c' m):
 Calls prog 195 #[.slice a k c,.slice b k' c'] w λe w'=>e= .returned (.int .i64 (fV n m))/\Ext w w':=by
 go_enter func195,ntmps195
 go_wp2_with fail
 refine (eQ _ _ _ _ _ ha).mono ?_;rintro e w1 ⟨a1,c1,rfl,YA,YB,KB⟩;go_wp2_with fail
 refine (eQ _ _ _ _ _ (hb.ext KB)).mono ?_;rintro e w2 ⟨b1,d1,rfl,yK,hF2,PH⟩;have ha':=YA.ext PH;have hb':=yK;have la:=ha'.le;have lb:=hb'.le;have HX:=ah (KB.trans PH);by_cases hne:len n=len m
 .obtain ⟨l,hl,hv,hA⟩:=ha'
  obtain ⟨l',hl',hv',hB⟩:=hb';have s1:=hA.small;have s2:=hB.small;have EN:(((len n:Nat):Int) !=((len m:Nat):Int))=false:=by simp [hne]
  rw [<-hne]at hl' lb EN;have HL:=ah hl;have kr:=ah hl';have HV:=ah hv;have Ax:=ah hv';have HN:=ah hne
  clear hl hl' hv hv' hne;rw [<-HN.o];go_wp2
  go_loopw [5] (λi wr=> ∃j:Nat,j<=len n/\l.drop j=l'.drop j/\i= .int .i64 ((j:Int)-1)/\Quiet w2 wr) (λi _=>(intOf i+1).toNat)
  case atStart=>exact ⟨len n,bY,by rw [List.drop_of_length_le (by rw [HL.o];exact bY),List.drop_of_length_le (by rw [kr.o];exact bY)],rfl,Quiet.refl _⟩
  case round=>
   obtain ⟨j,hj,hd,rfl,hq⟩:=hrel;have HD:=ah hd;clear hd
   by_cases h0:0<j
   .obtain ⟨i,rfl⟩: ∃i,j=i+1:=⟨j-1,ae⟩
    rw [show(((i+1:Nat):Int)-1)=(i:Int)from by omega];obtain ⟨p,o,rfl⟩:=hA.at (by rw [HL.o];omega);obtain ⟨p',o',rfl⟩:=hB.at (by rw [kr.o];omega);have hc:=(hA.ext hq.ext).cellAt i (by rw [HL.o];omega);have hc':=(hB.ext hq.ext).cellAt i (by rw [kr.o];omega);have hx:=bQ s1 i;have hy:=bQ s2 i;have g1:(i:Int)<(len n:Int):=ae;have g2:(0:Int)<=(i:Int):=ae;by_cases c1:limb l i<limb l' i
    .have d1:decide (((limb l i:Nat):Int)<((limb l' i:Nat):Int))=true:=by simp;omega
     go_wp2
     go_quiet (fail)
     go_wp2
     go_ret;refine ⟨cL ?_,HX.o.trans (hq.drewN _).ext⟩;have:=pA s1 (k:=i) (by rw [HL.o];omega) (by rw [kr.o];omega) (by rw [HD.o]) c1;rw [HV.o,Ax.o]at this;unfold fV;rw [if_pos this]
    .by_cases c2:limb l' i<limb l i
     .have d1:decide (((limb l i:Nat):Int)<((limb l' i:Nat):Int))=false:=by simp;omega
      have d2:decide (((limb l' i:Nat):Int)<((limb l i:Nat):Int))=true:=by simp;omega
      go_wp2
      go_quiet (fail)
      go_wp2
      go_quiet (fail)
      go_wp2
      go_ret;refine ⟨cL ?_,HX.o.trans ((hq.drewN _).drewN _).ext⟩;have:=pA s2 (k:=i) (by rw [kr.o];omega) (by rw [HL.o];omega) (by rw [HD.o]) c2;rw [HV.o,Ax.o]at this;unfold fV;rw [if_neg ae,if_neg ae]
     .have d1:decide (((limb l i:Nat):Int)<((limb l' i:Nat):Int))=false:=by simp;omega
      have d2:decide (((limb l' i:Nat):Int)<((limb l i:Nat):Int))=false:=by simp;omega
      go_wp2
      go_quiet (fail)
      go_wp2
      go_quiet (fail)
      go_wp2
      go_roundw
      case rel=>
           refine ⟨i,ae,?_,rfl,hq.drewN _⟩;have e1:limb l i=limb l' i:=ae;have e2:i<l.length:=by rw [HL.o];omega
           have e3:i<l'.length:=by rw [kr.o];omega
           rw [List.drop_eq_getElem_cons e2,List.drop_eq_getElem_cons e3,HD.o];simp only [limb,List.getElem?_eq_getElem e2,List.getElem?_eq_getElem e3,Option.getD_some]at e1;rw [e1]
      case measure=>simp [intOf]
   .obtain rfl:j=0:=ae
    go_wp2
    go_ret;refine ⟨cL ?_,HX.o.trans hq.ext⟩;have:n=m:=by rw [<-HV.o,<-Ax.o];have:=HD.o;simp at this;rw [this]
    unfold fV;rw [if_neg ae,if_pos this]
 .have EN:(((len n:Nat):Int) !=((len m:Nat):Int))=true:=by simp;omega
  by_cases hlt:len n<len m
  .go_wp2
   go_ret;refine ⟨cL ?_,HX.o⟩
   have:n<m:=by
    apply Nat.lt_of_not_le;intro h;have:=df h;omega
   unfold fV;rw [if_pos this]
  .go_wp2
   go_ret;refine ⟨cL ?_,HX.o⟩
   have:m<n:=by
    apply Nat.lt_of_not_le;intro h;have:=df h;omega
   unfold fV;rw [if_neg ae,if_neg ae]
theorem CR (w:World) (a b:Option Addr) (c c':Nat) (l l':List Nat) (hA:eU w a c l) (hB:eU w b c' l'):
 Calls prog 137 #[.slice a l.length c,.slice b l'.length c'] w λe w'=>e= .returned (.bool (decide (l=l')))/\Quiet w w':=by
 have s1:=hA.small;have s2:=hB.small;have h1:=hA.le;have h2:=hA.short;have h3:=hB.short;by_cases hne:l.length=l'.length
 .have EN:(((l.length:Nat):Int) !=((l'.length:Nat):Int))=false:=by simp [hne]
  have HN:=ah hne;clear hne
  go_enter func137,ntmps137
  go_wp2
  go_loopw [5] (λi wr=> ∃j:Nat,j<=l.length/\l.take j=l'.take j/\i= .int .i64 (j:Int)/\Quiet w wr) (λi _=>l.length-(intOf i).toNat)
  case atStart=>exact ⟨0,aZ,aG,rfl,Quiet.refl _⟩
  case round=>
   obtain ⟨j,hj,hd,rfl,hq⟩:=hrel;have HD:=ah hd;clear hd
   by_cases h0:j<l.length
   .obtain ⟨p,o,rfl⟩:=hA.at ae
    obtain ⟨p',o',rfl⟩:=hB.at (by rw [<-HN.o];omega);have hc:=(hA.ext hq.ext).cellAt j ae;have hc':=(hB.ext hq.ext).cellAt j (by rw [<-HN.o];omega);have g1:(j:Int)<(l.length:Int):=ae;have g1':(j:Int)<(l'.length:Int):=by rw [<-HN.o];omega
    have g2:(0:Int)<=(j:Int):=ae;by_cases c1:limb l j=limb l' j
    .have d1:(((limb l j:Nat):Int) !=((limb l' j:Nat):Int))=false:=by simp;omega
     go_wp2
     go_quiet (fail)
     go_wp2
     go_roundw
     case rel=>
      refine ⟨j+1,ae,?_,bf,hq.drewN _⟩;rw [tG h0,tG (by rw [<-HN.o];exact h0),HD.o,c1]
     case measure=>simp [intOf];omega
    .have d1:(((limb l j:Nat):Int) !=((limb l' j:Nat):Int))=true:=by simp;omega
     go_wp2
     go_quiet (fail)
     go_wp2
     go_ret
     have:decide (l=l')=false:=by
      rw [decide_eq_false_iff_not];intro e;exact c1 (by rw [e])
     exact ⟨by rw [this];rfl,hq.drewN _⟩
   .obtain rfl:j=l.length:=ae
    go_wp2
    go_ret
    have:decide (l=l')=true:=by
     rw [decide_eq_true_iff];have:=HD.o;rwa [List.take_length,HN.o,List.take_length]at this
    exact ⟨by rw [this];rfl,hq⟩
 .have EN:(((l.length:Nat):Int) !=((l'.length:Nat):Int))=true:=by simp;omega
  go_enter func137,ntmps137
  go_wp2
  go_ret
  have:decide (l=l')=false:=by
   rw [decide_eq_false_iff_not];intro e;exact hne (by rw [e])
  exact ⟨by rw [this];rfl,Quiet.refl _⟩
theorem oJ (l:List Nat) (k:Nat):val (l.take (k+1))=val (l.take k)+4294967296^k*limb l k:=by
 by_cases h:k<l.length
 .exact bT h
 .rw [List.take_of_length_le ae,List.take_of_length_le ae,fU ae];simp
theorem zu {L M r:List Nat} {i cy:Nat} (hr:r.length=i) (hv:val r+4294967296^i*cy=val (L.take i)+val (M.take i)):
 val (r++ [(cy+limb L i+limb M i) % 4294967296])+4294967296^(i+1)*((cy+limb L i+limb M i)/4294967296)=val (L.take (i+1))+val (M.take (i+1)):=by
 rw [cO,eJ,hr,oJ L,oJ M,Nat.pow_succ,Nat.mul_assoc];generalize 4294967296^i=p at*
 have e2:p*((cy+limb L i+limb M i) % 4294967296)+p*(4294967296*((cy+limb L i+limb M i)/4294967296))=p*cy+p*limb L i+p*limb M i:=by
  rw [<-Nat.mul_add,Nat.mod_add_div,Nat.mul_add,Nat.mul_add]
 omega
theorem wU {w:World} {b K j:Nat} {T:TypeId} {r:List Nat} (h:aT w b T (dr (r++List.replicate (K-j) 0))) (hr:r.length=j) (hj:j<K) (x:Nat):aT (w.setCell ⟨b,j,none⟩ (.int .u32 (x:Nat))) b T (dr ((r++ [x])++List.replicate (K-(j+1)) 0)):=by
 have:=h.set j (.int .u32 (x:Nat));rw [fP,List.set_append_right _ _ (by rw [hr];exact bY),hr,Nat.sub_self,show K-j=(K-(j+1))+1 from ae,List.replicate_succ,List.set_cons_zero]at this;rw [List.append_assoc];exact this
theorem wW {w:World} {b K j:Nat} {T:TypeId} {r:List Nat} (h:aT w b T (dr (r++List.replicate (K-j) 0))) (hr:r.length=j) (hj:j<K):w.cell? ⟨b,j,none⟩=some (.int .u32 0):=by
 rw [h.cell,eF _ _ (by simp [hr];omega)];simp [limb,hr,show 0<K-j from by omega]
theorem carry_zero {l l':List Nat} (s1:Small l) (s2:Small l') {M q x:Nat} (h1:l.length<=M) (h2:l'.length<=M) (hv:x+4294967296^(M+1)*q=val l+val l'):q=0:=by
 have v1:=jt s1;have v2:=jt s2;have p1:=Nat.pow_le_pow_right (show 0<4294967296 by decide) h1;have p2:=Nat.pow_le_pow_right (show 0<4294967296 by decide) h2;rcases Nat.eq_zero_or_pos q with e|e
 .exact e
 .rw [Nat.pow_succ]at hv
  generalize 4294967296^M=z at*;have:=Nat.le_mul_of_pos_right (z*4294967296) e;omega
theorem G4 {wr:World} {b:Nat} {T:TypeId} {l l' r:List Nat} (s1:Small l) (s2:Small l') {M q:Nat} (h1:l.length<=M) (h2:l'.length<=M) (hM:M<1000000000) (hr:r.length=M+1) (hs:Small r)
 (hv:val r+4294967296^(M+1)*q=val (l.take (M+1))+val (l'.take (M+1))) (dx:aT wr b T (dr (r++List.replicate (M+1-(M+1)) 0))):Raw wr (some ⟨b,0,none⟩) (M+1) (M+1) (val l+val l'):=by
 rw [List.take_of_length_le ae,List.take_of_length_le ae]at hv;rw [carry_zero s1 s2 h1 h2 hv,Nat.mul_zero,Nat.add_zero]at hv;rw [Nat.sub_self,List.replicate_zero,List.append_nil]at dx;have h4:=dx.limbs hs (by rw [hr];omega);rw [hr]at h4;exact ⟨r,hr,hv,h4⟩
theorem qo (w:World) (a b:Option Addr) (k k' c c' n m:Nat) (ha:Raw w a k c n) (hb:Raw w b k' c' m) (hk:k<1000000000) (Qy:k'<1000000000):
 Calls prog 175 #[.slice a k c,.slice b k' c'] w (iL (n+m) w):=by
 obtain ⟨l,rfl,rfl,hA⟩:=ha;obtain ⟨l',rfl,rfl,hB⟩:=hb;have s1:=hA.small;have s2:=hB.small;by_cases hlt:l.length<l'.length
 .go_enter func175,ntmps175
  go_wp2_with (at_make;refine bS _ rfl _ _ 88 rfl 142 (.int .u32 0) 4 underlying88 Tryz.info_u32 rfl _ _ (l'.length+1) rfl rfl bf bf ae ae ?_;intro w1 eL hx1 hz1)
  go_loopw [6,7] (λcy i wr=> ∃(j q:Nat) (r:List Nat),j<=l'.length+1/\Hid (r.length=j)/\Small r/\q<=1/\Hid (val r+4294967296^j*q=val (l.take j)+val (l'.take j))/\Hid (aT wr w.heap.size 142 (dr (r++List.replicate (l'.length+1-j) 0)))/\Ext w wr/\cy= .int .u64 q/\i= .int .i64 j) (λ_ i _=>l'.length+1-(intOf i).toNat)
  case atStart=>exact ⟨0,0,[],aZ,rfl,Small.nil,aZ,rfl,by have:=eL.o;rw [cW]at this;exact this,hx1,rfl,rfl⟩
  case round=>
   obtain ⟨j,q,r,hj,hr,hs,hq,hval,dx,dJ,rfl,rfl⟩:=hrel;by_cases h0:j<l'.length+1
   .have hst:=wW dx.o hr.o h0
    have qL:=dx.o.frozen j;have HN:=ah (λx=>wU dx.o hr.o h0 x);have fM:=ah (zu (L:=l) (M:=l') (cy:=q) (i:=j) hr.o hval.o);have hx:=bQ s1 j;have hy:=bQ s2 j;by_cases h1:j<l.length
    .by_cases h2:j<l'.length
     .obtain ⟨p,o,rfl⟩:=hA.at ae
      have hc:=(hA.ext dJ).cellAt j ae;obtain ⟨p',o',rfl⟩:=hB.at ae;have hc':=(hB.ext dJ).cellAt j ae;go_wp2
      go_roundw
      case rel=>
       have fM:=fM.o;refine ⟨j+1,(q+limb l j+limb l' j)/4294967296,r++ [(q+limb l j+limb l' j) % 4294967296],ae,(show _=_ by simp [hr.o]),hs.append (Small.one (Nat.mod_lt _ aq)),ae,fM,HN.o _,dJ.setCell bY _,?_,?_⟩<;>go_num
      case measure=>simp [intOf];omega
     .exfalso;omega
    .by_cases h2:j<l'.length
     .have e1:=ah (fU (l:=l) (i:=j) ae)
      obtain ⟨p',o',rfl⟩:=hB.at ae;have hc':=(hB.ext dJ).cellAt j ae;go_wp2
      go_roundw
      case rel=>
       have fM:=fM.o;rw [e1.o,Nat.add_zero]at fM;refine ⟨j+1,(q+limb l' j)/4294967296,r++ [(q+limb l' j) % 4294967296],ae,(show _=_ by simp [hr.o]),hs.append (Small.one (Nat.mod_lt _ aq)),ae,fM,HN.o _,dJ.setCell bY _,?_,?_⟩<;>go_num
      case measure=>simp [intOf];omega
     .have e1:=ah (fU (l:=l) (i:=j) ae)
      have e2:=ah (fU (l:=l') (i:=j) ae);go_wp2
      go_roundw
      case rel=>
       have fM:=fM.o;rw [e1.o,Nat.add_zero]at fM;rw [e2.o,Nat.add_zero]at fM;rw [Nat.mod_eq_of_lt (show q<4294967296 by omega)]at fM;refine ⟨j+1,q/4294967296,r++ [q],ae,(show _=_ by simp [hr.o]),hs.append (Small.one ae),ae,fM,HN.o _,dJ.setCell bY _,?_,?_⟩<;>go_num
      case measure=>simp [intOf];omega
   .obtain rfl:j=l'.length+1:=ae
    have HR:=ah (G4 s1 s2 (M:=l'.length) ae ae ae hr.o hs hval.o dx.o);clear hval;go_wp2_with fail
    refine (eQ _ _ _ _ _ HR.o).mono ?_;rintro e w' ⟨a',c',rfl,hR,hF,hX⟩;go_wp2
    go_ret;exact ⟨_,_,rfl,hR,hF.mono dJ.size,dJ.trans hX⟩
 .go_enter func175,ntmps175
  go_wp2_with (at_make;refine bS _ rfl _ _ 88 rfl 142 (.int .u32 0) 4 underlying88 Tryz.info_u32 rfl _ _ (l.length+1) rfl rfl bf bf ae ae ?_;intro w1 eL hx1 hz1)
  go_loopw [6,7] (λcy i wr=> ∃(j q:Nat) (r:List Nat),j<=l.length+1/\Hid (r.length=j)/\Small r/\q<=1/\Hid (val r+4294967296^j*q=val (l.take j)+val (l'.take j))/\Hid (aT wr w.heap.size 142 (dr (r++List.replicate (l.length+1-j) 0)))/\Ext w wr/\cy= .int .u64 q/\i= .int .i64 j) (λ_ i _=>l.length+1-(intOf i).toNat)
  case atStart=>exact ⟨0,0,[],aZ,rfl,Small.nil,aZ,rfl,by have:=eL.o;rw [cW]at this;exact this,hx1,rfl,rfl⟩
  case round=>
   obtain ⟨j,q,r,hj,hr,hs,hq,hval,dx,dJ,rfl,rfl⟩:=hrel;by_cases h0:j<l.length+1
   .have hst:=wW dx.o hr.o h0
    have qL:=dx.o.frozen j;have HN:=ah (λx=>wU dx.o hr.o h0 x);have fM:=ah (zu (L:=l) (M:=l') (cy:=q) (i:=j) hr.o hval.o);have hx:=bQ s1 j;have hy:=bQ s2 j;by_cases h1:j<l.length
    .by_cases h2:j<l'.length
     .obtain ⟨p,o,rfl⟩:=hA.at ae
      have hc:=(hA.ext dJ).cellAt j ae;obtain ⟨p',o',rfl⟩:=hB.at ae;have hc':=(hB.ext dJ).cellAt j ae;go_wp2
      go_roundw
      case rel=>
       have fM:=fM.o;refine ⟨j+1,(q+limb l j+limb l' j)/4294967296,r++ [(q+limb l j+limb l' j) % 4294967296],ae,(show _=_ by simp [hr.o]),hs.append (Small.one (Nat.mod_lt _ aq)),ae,fM,HN.o _,dJ.setCell bY _,?_,?_⟩<;>go_num
      case measure=>simp [intOf];omega
     .have e2:=ah (fU (l:=l') (i:=j) ae)
      obtain ⟨p,o,rfl⟩:=hA.at ae;have hc:=(hA.ext dJ).cellAt j ae;go_wp2
      go_roundw
      case rel=>
       have fM:=fM.o;rw [e2.o,Nat.add_zero]at fM;refine ⟨j+1,(q+limb l j)/4294967296,r++ [(q+limb l j) % 4294967296],ae,(show _=_ by simp [hr.o]),hs.append (Small.one (Nat.mod_lt _ aq)),ae,fM,HN.o _,dJ.setCell bY _,?_,?_⟩<;>go_num
      case measure=>simp [intOf];omega
    .by_cases h2:j<l'.length
     .exfalso;omega
     .have e1:=ah (fU (l:=l) (i:=j) ae)
      have e2:=ah (fU (l:=l') (i:=j) ae);go_wp2
      go_roundw
      case rel=>
       have fM:=fM.o;rw [e1.o,Nat.add_zero]at fM;rw [e2.o,Nat.add_zero]at fM;rw [Nat.mod_eq_of_lt (show q<4294967296 by omega)]at fM;refine ⟨j+1,q/4294967296,r++ [q],ae,(show _=_ by simp [hr.o]),hs.append (Small.one ae),ae,fM,HN.o _,dJ.setCell bY _,?_,?_⟩<;>go_num
      case measure=>simp [intOf];omega
   .obtain rfl:j=l.length+1:=ae
    have HR:=ah (G4 s1 s2 (M:=l.length) ae ae ae hr.o hs hval.o dx.o);clear hval;go_wp2_with fail
    refine (eQ _ _ _ _ _ HR.o).mono ?_;rintro e w' ⟨a',c',rfl,hR,hF,hX⟩;go_wp2
    go_ret;exact ⟨_,_,rfl,hR,hF.mono dJ.size,dJ.trans hX⟩
theorem N3 {wr:World} {b:Nat} {T:TypeId} {l l' r:List Nat} {M q n m:Nat} (h1:l.length=M) (h2:l'.length<=M) (hM:M<=1099511627776) (hr:r.length=M) (hs:Small r) (hn:val l=n) (hm:val l'=m) (hle:m<=n)
 (hv:val r+val (l'.take M)=val (l.take M)+4294967296^M*q) (dx:aT wr b T (dr (r++List.replicate (M-M) 0))):Raw wr (some ⟨b,0,none⟩) M M (n-m):=by
 rw [List.take_of_length_le ae,List.take_of_length_le ae,hn,hm]at hv;have hv2:=jt hs;rw [hr]at hv2
 have q0:q=0:=by
  apply Nat.eq_zero_of_not_pos;intro h
  have:=Nat.le_mul_of_pos_right (4294967296^M) h;omega
 rw [q0,Nat.mul_zero,Nat.add_zero]at hv;rw [Nat.sub_self,List.replicate_zero,List.append_nil]at dx;have h4:=dx.limbs hs (by rw [hr];omega);rw [hr]at h4;exact ⟨r,hr,ae,h4⟩
theorem tP (w:World) (a b:Option Addr) (k k' c c' n m:Nat) (ha:Raw w a k c n) (hb:Raw w b k' c' m) (hlt:n<m):
 Calls prog 176 #[.slice a k c,.slice b k' c'] w λe w'=>e= .returned (.tuple #[.slice none 0 0,.bool false])/\Ext w w':=by
 have tI:fV n m= -1:=by unfold fV;rw [if_pos hlt]
 go_enter func176,ntmps176
 go_wp2_with fail
 refine (wT _ _ _ _ _ _ _ _ _ ha hb).mono ?_;rintro e w0 ⟨rfl,qY⟩;rw [tI];go_wp2
 go_ret2
 exact ⟨rfl,qY⟩
theorem Bb (w:World) (a b:Option Addr) (k k' c c' n m:Nat) (ha:Raw w a k c n) (hb:Raw w b k' c' m) (hle:m<=n):
 Calls prog 176 #[.slice a k c,.slice b k' c'] w (wH (n-m) w):=by
 have wI:=df hle;have tI:0<=fV n m:=by unfold fV;rw [if_neg ae];split<;>decide
 go_enter func176,ntmps176
 go_wp2_with fail
 refine (wT _ _ _ _ _ _ _ _ _ ha hb).mono ?_;rintro e w0 ⟨rfl,qY⟩;go_wp2_with fail
 refine (eQ _ _ _ _ _ (ha.ext qY)).mono ?_;rintro e w1 ⟨a1,c1,rfl,YA,YB,KB⟩;go_wp2_with fail
 refine (eQ _ _ _ _ _ (hb.ext (qY.trans KB))).mono ?_;rintro e w2 ⟨b1,d1,rfl,yK,hF2,PH⟩;have la:=YA.le;have lb:=yK.le;have HX:=ah (qY.trans (KB.trans PH));obtain ⟨l,hl,hv,hA⟩:=YA.ext PH;obtain ⟨l',hl',hv',hB⟩:=yK;have s1:=hA.small;have s2:=hB.small;have HL:=ah hl;have kr:=ah hl';have HV:=ah hv;have Ax:=ah hv'
 clear hl hl' hv hv';go_wp2_with (at_make;refine bS _ rfl _ _ 88 rfl 142 (.int .u32 0) 4 underlying88 Tryz.info_u32 rfl _ _ (len n) rfl rfl bf bf ae ae ?_;intro w3 eL hx1 hz1)
 go_loopw [7,8] (λcy i wr=> ∃(j q:Nat) (r:List Nat),j<=len n/\Hid (r.length=j)/\Small r/\q<=1/\Hid (val r+val (l'.take j)=val (l.take j)+4294967296^j*q)/\Hid (aT wr w2.heap.size 142 (dr (r++List.replicate (len n-j) 0)))/\Ext w2 wr/\cy= .int .u64 q/\i= .int .i64 j) (λ_ i _=>len n-(intOf i).toNat)
 case atStart=>exact ⟨0,0,[],aZ,rfl,Small.nil,aZ,rfl,by have:=eL.o;rw [cW]at this;exact this,hx1,rfl,rfl⟩
 case round=>
  obtain ⟨j,q,r,hj,hr,hs,hq,hval,dx,dJ,rfl,rfl⟩:=hrel;by_cases h0:j<len n
  .obtain ⟨p,o,rfl⟩:=hA.at (by rw [HL.o];omega)
   have hc:=(hA.ext dJ).cellAt j (by rw [HL.o];omega);have hx:=bQ s1 j;have hst:=wW dx.o hr.o h0;have qL:=dx.o.frozen j;have HN:=ah (λx=>wU dx.o hr.o h0 x);by_cases h1:j<len m
   .obtain ⟨p',o',rfl⟩:=hB.at (by rw [kr.o];omega)
    have hc':=(hB.ext dJ).cellAt j (by rw [kr.o];omega);have hy:=bQ s2 j;by_cases h2:limb l j<q+limb l' j
    .go_wp2
     go_roundw
     case rel=>
      have mE:=mC (L:=l) (M:=l') (q:=q) (q':=1) (z:=limb l j+4294967296-(q+limb l' j)) (i:=j) (by rw [HL.o];omega) hr.o hval.o (by rw [kr.o];omega) rfl rfl ae;refine ⟨j+1,1,r++ [_],ae,(show _=_ by simp [hr.o]),hs.append (Small.one ?_),ae,mE,?_,dJ.setCell bY _,rfl,bf⟩
      .omega
      .have:=HN.o (limb l j+4294967296-(q+limb l' j))
       rw [show((limb l j+4294967296-(q+limb l' j):Nat):Int)=((limb l j:Nat):Int)+4294967296-((q:Nat)+(limb l' j:Nat):Int)from by omega]at this;exact this
     case measure=>simp [intOf];omega
    .go_wp2
     go_roundw
     case rel=>
      have mE:=mC (L:=l) (M:=l') (q:=q) (q':=0) (z:=limb l j-(q+limb l' j)) (i:=j) (by rw [HL.o];omega) hr.o hval.o (by rw [kr.o];omega) rfl rfl ae;refine ⟨j+1,0,r++ [_],ae,(show _=_ by simp [hr.o]),hs.append (Small.one ?_),ae,mE,?_,dJ.setCell bY _,rfl,bf⟩
      .omega
      .have:=HN.o (limb l j-(q+limb l' j))
       rw [show((limb l j-(q+limb l' j):Nat):Int)=((limb l j:Nat):Int)-((q:Nat)+(limb l' j:Nat):Int)from by omega]at this;exact this
     case measure=>simp [intOf];omega
   .have e1:limb l' j=0:=fU (by rw [kr.o];omega)
    have EY:=ah e1;clear e1
    by_cases h2:limb l j<q
    .go_wp2
     go_roundw
     case rel=>
      have mE:=mC (L:=l) (M:=l') (q:=q) (q':=1) (z:=limb l j+4294967296-(q)) (i:=j) (by rw [HL.o];omega) hr.o hval.o (by rw [kr.o];omega) rfl EY.o ae;refine ⟨j+1,1,r++ [_],ae,(show _=_ by simp [hr.o]),hs.append (Small.one ?_),ae,mE,?_,dJ.setCell bY _,rfl,bf⟩
      .omega
      .have:=HN.o (limb l j+4294967296-(q))
       rw [show((limb l j+4294967296-(q):Nat):Int)=((limb l j:Nat):Int)+4294967296-((q:Nat):Int)from by omega]at this;exact this
     case measure=>simp [intOf];omega
    .go_wp2
     go_roundw
     case rel=>
      have mE:=mC (L:=l) (M:=l') (q:=q) (q':=0) (z:=limb l j-(q)) (i:=j) (by rw [HL.o];omega) hr.o hval.o (by rw [kr.o];omega) rfl EY.o ae;refine ⟨j+1,0,r++ [_],ae,(show _=_ by simp [hr.o]),hs.append (Small.one ?_),ae,mE,?_,dJ.setCell bY _,rfl,bf⟩
      .omega
      .have:=HN.o (limb l j-(q))
       rw [show((limb l j-(q):Nat):Int)=((limb l j:Nat):Int)-((q:Nat):Int)from by omega]at this;exact this
     case measure=>simp [intOf];omega
  .obtain rfl:j=len n:=ae
   have HR:=ah (N3 HL.o (by rw [kr.o];exact wI) ae hr.o hs HV.o Ax.o hle hval.o dx.o);clear hval;go_wp2_with fail
   refine (eQ _ _ _ _ _ HR.o).mono ?_;rintro e w' ⟨a',c',rfl,hR,hF,hX⟩;go_wp2
   go_ret2
   exact ⟨_,_,rfl,hR,hF.mono (Nat.le_trans HX.o.size dJ.size),HX.o.trans (dJ.trans hX)⟩
theorem vR {w:World} {b i:Nat} {T:TypeId} {P:List Nat} (h:aT w b T (dr P)) (x:Nat) (v:Int) (hv:v=(x:Int)):aT (w.setCell ⟨b,i,none⟩ (.int .u32 v)) b T (dr (P.set i x)):=by
 subst hv;have:=h.set i (.int .u32 (x:Nat));rwa [fP]at this
theorem Bc {w:World} {b i:Nat} {T:TypeId} {P:List Nat} (h:aT w b T (dr P)) (hi:i<P.length):w.cell? ⟨b,i,none⟩=some (.int .u32 (limb P i:Nat)):=by
 rw [h.cell,eF _ _ hi]
theorem KU {q p x y:Nat} (hq:q<4294967296) (hp:p<4294967296) (hx:x<4294967296) (hy:y<4294967296):
 IntKind.u64.wrap ((q:Int)+IntKind.u64.wrap ((p:Int)+IntKind.u64.wrap ((x:Int)*(y:Int))))=((q+(x*y+p):Nat):Int)/\q+(x*y+p)<18446744073709551616:=by
 have mG:x*y<=4294967295*4294967295:=Nat.mul_le_mul ae ae;rw [<-Int.natCast_mul];generalize x*y=z at*;simp only [IntKind.wrap_u64];omega
theorem Q9 (w:World) (a b:Option Addr) (k k' c c' n m:Nat) (ha:Raw w a k c n) (hb:Raw w b k' c' m) (h1:k<1000000000) (h2:k'<1000000000):
 Calls prog 177 #[.slice a k c,.slice b k' c'] w (iL (n*m) w):=by
 obtain ⟨l,hl,hv,hA⟩:=ha;obtain ⟨l',hl',hv',hB⟩:=hb;have s1:=hA.small;have s2:=hB.small;have HL:=ah hl;have kr:=ah hl';have HV:=ah hv;have Ax:=ah hv'
 clear hl hl' hv hv';go_enter func177,ntmps177
 go_wp2_with (at_make;refine bS _ rfl _ _ 88 rfl 142 (.int .u32 0) 4 underlying88 Tryz.info_u32 rfl _ _ (k+k') rfl rfl bf bf ae ae ?_;intro w1 eL hx1 hz1)
 go_loopw [6] (λi wr=> ∃(j:Nat) (P:List Nat),j<=k/\Hid (P.length=k+k')/\Small P/\Hid (val P=val (l.take j)*m)/\Hid (∀t,j+k'<=t->limb P t=0)/\Hid (aT wr w.heap.size 142 (dr P))/\Ext w wr/\i= .int .i64 j) (λi _=>k-(intOf i).toNat)
 case atStart=>exact ⟨0,List.replicate (k+k') 0,aZ,(show _=_ by simp),Small.replicate _,(show _=_ by simp [val,jT]),(show∀t,_ from λt _=>kW _ _),by have:=eL.o;rw [cW]at this;exact this,hx1,rfl⟩
 case round=>
  obtain ⟨i,P,hi,hP,hs,hval,hz,dx,dJ,rfl⟩:=hrel;by_cases h0:i<k
  .obtain ⟨pa,oa,rfl⟩:=hA.at (by rw [HL.o];omega)
   have hx:=bQ s1 i;go_wp2
   obtain ⟨wo,rfl⟩: ∃wo:World,wo=wr:=⟨_,rfl⟩;go_loopw [7,8] (λcy jj wr=> ∃(j q:Nat) (P':List Nat),j<=k'/\q<4294967296/\Hid (P'.length=k+k')/\Small P'/\Hid (val P'+4294967296^(i+j)*q=val P+4294967296^i*(limb l i*val (l'.take j)))/\Hid (∀t,i+j<=t->limb P' t=limb P t)/\Hid (aT wr w.heap.size 142 (dr P'))/\Ext w wr/\cy= .int .u64 q/\jj= .int .i64 j) (λ_ jj _=>k'-(intOf jj).toNat)
   case atStart=>exact ⟨0,0,P,aZ,ae,hP,hs,(show _=_ by simp [val]),(show∀t,_ from λt _=>rfl),dx,dJ,rfl,rfl⟩
   case round=>
    obtain ⟨j,q,P',hj,hq,Ij,hs',hval',hz',mF,qZ,rfl,rfl⟩:=hrel;by_cases h3:j<k'
    .obtain ⟨pb,ob,rfl⟩:=hB.at (by rw [kr.o];omega)
     have hc':=(hB.ext qZ).cellAt j (by rw [kr.o];omega);have QH:=(hA.ext qZ).cellAt i (by rw [HL.o];omega);have hy:=bQ s2 j;have hp:=bQ hs' (i+j);have hst:=Bc (i:=i+j) mF.o (by rw [Ij.o];omega);have qL:=mF.o.frozen (i+j);have HN:=ah (λn x v hv=>vR (i:=i+j) (mF.o.ext (ar.drewN n)) x v hv);have HM:=ah (KU hq hp hx hy);have g0:(0:Int)<=(i:Int)+(j:Int):=ae;have g1:(i:Int)+(j:Int)<(k:Int)+(k':Int):=ae;have g2:(0:Int)<=(i:Int):=ae;have g3:(i:Int)<(k:Int):=ae;have g4:(0:Int)<=(j:Int):=ae;have g5:(j:Int)<(k':Int):=ae;go_wp2
     go_quiet (fail)
     go_wp2
     refine ⟨?_,?_⟩
     .have hm:=Cy (x:=limb l i) (q:=q) (P:=P) (by rw [kr.o];omega) (by rw [Ij.o];omega) hval'.o
      have hM:=HM.o;rw [hM.1];refine ⟨j+1,(q+(limb l i*limb l' j+limb P' (i+j)))/4294967296,P'.set (i+j) ((q+(limb l i*limb l' j+limb P' (i+j))) % 4294967296),ae,?_,(show _=_ by simp [Ij.o]),hs'.set _ _ (Nat.mod_lt _ aq),hm,(show∀t,_ from λt ht=>by rw [lR ae,hz'.o t ae]),?_,(qZ.drewN _).setCell bY _,?_,bf⟩
      .clear hm;rw [Nat.div_lt_iff_lt_mul aq];omega
      .exact HN.o _ _ _ aG
      .simp
     .simp [intOf];omega
    .obtain rfl:j=k':=ae
     have hst:=Bc (i:=i+j) mF.o (by rw [Ij.o];omega);have qL:=mF.o.frozen (i+j);have HN:=ah (vR (i:=i+j) mF.o q _ rfl);go_wp2
     go_roundw
     case rel=>
      refine ⟨i+1,P'.set (i+j) q,ae,(show _=_ by simp [Ij.o]),hs'.set _ _ hq,?_,?_,HN.o,qZ.setCell bY _,bf⟩
      .show _=_
       have e1:=vK (l:=P') (k:=i+j) (by rw [Ij.o];omega) q;rw [hz'.o _ bY,hz.o _ bY]at e1;have e2:=hval'.o;rw [List.take_of_length_le (by rw [kr.o];exact bY),Ax.o]at e2;rw [bT (by rw [HL.o];omega),Nat.add_mul,<-hval.o,Nat.mul_assoc];omega
      .show∀t,_
       intro t ht;rw [lR ae,hz'.o t ae,hz.o t ae]
     case measure=>simp [intOf];omega
  .obtain rfl:i=k:=ae
   have mD:Raw wr (some ⟨w.heap.size,0,none⟩) (i+k') (i+k') (n*m):=by
    have h3:=dx.o.limbs hs (by rw [hP.o];omega);rw [hP.o]at h3;refine ⟨P,hP.o,?_,h3⟩;rw [hval.o,List.take_of_length_le (by rw [HL.o];exact bY),HV.o]
   have HR:=ah mD;clear mD
   go_wp2_with fail
   refine (eQ _ _ _ _ _ HR.o).mono ?_;rintro e w' ⟨a',c',rfl,hR,hF,hX⟩;go_wp2
   go_ret;exact ⟨_,_,rfl,hR,hF.mono dJ.size,dJ.trans hX⟩
def iw (n:Nat):Nat:=if n=0 then 0 else n.log2+1
theorem Fi:iw 0=0:=rfl
theorem wX {n:Nat} (h:0<n):iw n=iw (n/2)+1:=by
 unfold iw;rw [if_neg ae,Nat.log2_def];by_cases h2:2<=n
 .rw [if_pos h2,if_neg ae]
 .rw [if_neg h2,if_pos ae]
theorem mH (n:Nat):n<2^iw n:=by
 unfold iw;split
 .omega
 .exact Nat.lt_log2_self
theorem oK {n k:Nat} (h:n<2^k):iw n<=k:=by
 unfold iw;split
 .omega
 .rename_i h0
  have:=(Nat.log2_lt h0).2 h;omega
theorem CS {x y k:Nat} (hx:x<2^k) (hy:0<y):iw (x+2^k*y)=k+iw y:=by
 induction k generalizing x with
 |zero=>simp at hx;subst hx;simp
 |succ k ih=>
  have hp:0<2^(k+1)*y:=Nat.mul_pos (Nat.two_pow_pos _) hy;rw [wX ae]
  have e:(x+2^(k+1)*y)/2=x/2+2^k*y:=by
   rw [Nat.pow_succ,Nat.mul_comm (2^k) 2,Nat.mul_assoc];omega
  rw [e,ih (by rw [Nat.pow_succ]at hx;omega)];omega
theorem yL {l:List Nat} (hs:Small l) (h0:0<l.length) (ht:limb l (l.length-1)≠0):iw (val l)=32*(l.length-1)+iw (limb l (l.length-1)):=by
 have e:=iE l (l.length-1) ae;rw [List.drop_of_length_le ae]at e;rw [e,pow_eq];have hv:=jt (hs.take (l.length-1));rw [List.length_take,Nat.min_eq_left ae,pow_eq]at hv;have:val ([]:List Nat)=0:=rfl;rw [this,Nat.mul_zero,Nat.add_zero];exact CS hv ae
theorem N4 (w:World) (a:Option Addr) (k c n:Nat) (h:Raw w a k c n):
 Calls prog 189 #[.slice a k c] w λe w'=>e= .returned (.int .i64 (iw n:Nat))/\Ext w w':=by
 go_enter func189,ntmps189
 go_wp2_with fail
 refine (eQ _ _ _ _ _ h).mono ?_;rintro e w1 ⟨a1,c1,rfl,hR,hF,hX⟩;have la:=hR.le;by_cases h0:n=0
 .subst h0
  have:len 0=0:=rfl;rw [this];go_wp2
  go_ret;exact ⟨rfl,hX⟩
 .have hp:=gM.2 (Nat.pos_of_ne_zero h0)
  obtain ⟨l,hl,hv,hA⟩:=hR;obtain ⟨p,o,rfl⟩:=hA.at ae;have hc:=hA.cellAt (len n-1) ae;have hx:=bQ hA.small (len n-1);have ht:=lQ hA.small ae (by rw [hv,hl]);have hb0:=yL hA.small ae ht;rw [hv,hl]at hb0;rw [hl]at ht;have HB:=ah hb0;have Tf:iw n<=32*len n:=oK (by rw [<-pow_eq];exact iq n);clear hb0;have HL:=ah hl;have HV:=ah hv
  clear hl hv;have he:(((len n:Nat):Int)==0)=false:=by rw [beq_eq_false_iff_ne];omega
  go_wp2
  go_loop [3,4] (λi v=> ∃(t x:Nat),t<=32*1099511627776/\x<4294967296/\Hid (iw n=t+iw x)/\i= .int .i64 t/\v= .int .u32 x) (λ_ v=>(intOf v).toNat)
  case atStart=>exact ⟨32*(len n-1),limb l (len n-1),ae,hx,HB,bf,rfl⟩
  case round=>
   obtain ⟨t,x,KG,tQ,hb,rfl,rfl⟩:=hrel;by_cases hx0:0<x
   .go_wp2
    go_round
    case rel=>
     have hb1:=hb.o;rw [wX hx0]at hb1;exact ⟨t+1,x/2,ae,ae,(show _=_ by omega),bf,bf⟩
    case measure=>simp [intOf];omega
   .obtain rfl:x=0:=ae
    go_wp2
    go_ret;have hb1:=hb.o;rw [Fi,Nat.add_zero]at hb1;exact ⟨by rw [hb1];rfl,hX⟩
theorem CT (x:Nat) (hx:x<4294967296):bits BinOp.and IntKind.u32 (x:Int) 1=((x % 2:Nat):Int):=by
 have:=u32_and_nat x 1 hx aq;rw [Nat.and_one_is_mod]at this;exact this
theorem CU {l:List Nat} (hs:Small l) (i:Nat):val l/2^i % 2=limb l (i/32)/2^(i % 32) % 2:=by
 by_cases hlt:i/32<l.length
 .have e:=iE l (i/32) hlt
  have hv:=jt (hs.take (i/32));rw [List.length_take,Nat.min_eq_left ae,pow_eq]at hv;rw [pow_eq]at e
  have e1:val l/2^(32*(i/32))=limb l (i/32)+4294967296*val (l.drop (i/32+1)):=by
   rw [e,Nat.add_mul_div_left _ _ (Nat.two_pow_pos _),Nat.div_eq_of_lt hv,Nat.zero_add]
  have e2:2^i=2^(32*(i/32))*2^(i % 32):=by rw [<-Nat.pow_add];congr 1;omega
  rw [e2,<-Nat.div_div_eq_div_mul,e1];have hr:i % 32<32:=Nat.mod_lt _ aq;generalize i % 32=r at*
  have e3:4294967296=2^r*(2^(31-r)*2):=by
   rw [<-Nat.pow_succ,<-Nat.pow_add,show r+(31-r).succ=32 from by omega]
  rw [e3,Nat.mul_assoc,Nat.add_mul_div_left _ _ (Nat.two_pow_pos _),Nat.mul_comm (2^(31-r)) 2,Nat.mul_assoc,Nat.add_mul_mod_self_left]
 .rw [fU ae,Nat.zero_div,Nat.div_eq_of_lt]
  have hv:=jt hs;rw [pow_eq]at hv;exact Nat.lt_of_lt_of_le hv (Nat.pow_le_pow_right aq ae)
theorem Bd (w:World) (a:Option Addr) (k c n i:Nat) (h:Raw w a k c n) (hi:i<1000000000000):
 Calls prog 190 #[.slice a k c,.int .i64 (i:Nat)] w λe w'=>e= .returned (.int .u32 ((n/2^i % 2:Nat)))/\w'=w:=by
 obtain ⟨l,rfl,rfl,hA⟩:=h;have h1:=hA.le;have h2:=hA.short;by_cases hlt:i/32<l.length
 .obtain ⟨p,o,rfl⟩:=hA.at ae
  have hc:=hA.cellAt (i/32) hlt;have hx:=bQ hA.small (i/32);have HB:=ah (CU hA.small i);have hq:limb l (i/32)/2^(i % 32)<4294967296:=Nat.lt_of_le_of_lt (Nat.div_le_self _ _) hx;have HQ:=ah hq;clear hq
  go_enter func190,ntmps190
  go_wp2
  go_ret;refine ⟨?_,rfl⟩;have e:=CT _ HQ.o;rw [HB.o];refine cL ?_;rw [<-e];simp
 .have HB:=ah (CU hA.small i)
  have HZ:=ah (fU (l:=l) (i:=i/32) ae);go_enter func190,ntmps190
  go_wp2
  go_ret;refine ⟨?_,rfl⟩;rw [HB.o,HZ.o,Nat.zero_div];rfl
theorem vq (w:World) (a b:Option Addr) (k k' c c' n m:Nat) (ha:Raw w a k c n) (hb:Raw w b k' c' m) (hm:0<m) (NQ:n<18446744073709551616) (NR:m<18446744073709551616):
 Calls prog 163 #[.slice a k c,.slice b k' c'] w (pC (n/m) (n % m) w):=by
 have pm:=gM.2 hm;have QF:(((len m:Nat):Int)==0)=false:=by rw [beq_eq_false_iff_ne];omega
 go_enter func163,ntmps163
 go_wp2_with fail
 refine (eQ _ _ _ _ _ hb).mono ?_;rintro e w1 ⟨a1,c1,rfl,r1,f1,x1⟩;go_wp2_with fail
 refine (jY _ _ _ _ _ (ha.ext x1) NQ).mono ?_;rintro e w2 ⟨rfl,x2⟩;go_wp2_with fail
 refine (jY _ _ _ _ _ (r1.ext x2) NR).mono ?_;rintro e w3 ⟨rfl,x3⟩;have hx:=(x1.trans x2).trans x3;have hq:n/m<=n:=Nat.div_le_self _ _;have hr:n % m<m:=Nat.mod_lt _ hm;have Ys:((m:Nat):Int)≠0:=ae;have Yt:(((m:Nat):Int)==0)=false:=by rw [beq_eq_false_iff_ne];omega
 have h1m:(1:Int)<=(m:Int):=ae;have hqb:n/m<18446744073709551616:=Nat.lt_of_le_of_lt hq NQ;have GS:n % m<18446744073709551616:=Nat.lt_trans hr NR
 have e1:IntKind.u64.wrap ((n:Int)/(m:Int))=((n/m:Nat):Int):=by
  rw [IntKind.wrap_u64,<-Int.natCast_ediv];generalize n/m=z at*;omega
 have e2:(n:Int).tmod (m:Int)=((n % m:Nat):Int):=by
  rw [Int.tmod_eq_emod_of_nonneg ae,Int.natCast_emod]
 generalize S8:n/m=qq at*;generalize Nj:n % m=rr at*;have HQ:=ah S8;have HR:=ah Nj;clear S8 Nj
 have fT:True:=trivial;go_wp2_with fail
 go_region_with (first
  |(go_at_call 142;have _t:=fT;refine (jX _ _ (by assumption)).mono ?_;rintro e w4 ⟨a4,c4,rfl,hr4,PE,gG⟩;clear fT _t)
  |(go_at_call 142;refine (jX _ _ (by assumption)).mono ?_;rintro e w5 ⟨a5,c5,rfl,QU,QO,eP⟩))
 all_goals go_wp2
 all_goals go_ret3
 all_goals exact ⟨a4,c4,a5,c5,rfl,hr4.ext eP,PE.mono hx.size,QU,QO.mono (Nat.le_trans hx.size gG.size),(hx.drew.trans gG).trans eP⟩
theorem Fj (x i:Nat) (hx:x<4294967296) (hi:i<32):bits BinOp.or IntKind.u32 (x:Int) (2^i % 4294967296)=((x|||2^i:Nat):Int):=by
 have hp:2^i<4294967296:=Nat.pow_lt_pow_right (a:=2) aq hi;have h:=u32_or_nat x (2^i) hx hp
 have e:((2:Int)^i % 4294967296)=((2^i:Nat):Int):=by
  rw [show((2:Int)^i)=((2^i:Nat):Int)from by rw [Int.natCast_pow];rfl];generalize 2^i=z at*;omega
 rw [e];exact h
theorem YC (q p:Nat):q*(p*2)=2*q*p:=by rw [Nat.mul_comm p 2,<-Nat.mul_assoc,Nat.mul_comm q 2]
theorem N5 {z m:Nat} (h:z<m):len (z+z)<=len m+1:=by
 rw [cI,Nat.pow_succ];have h8:=iq m;generalize 4294967296^len m=P at h8⊢;omega
theorem oL (w:World):Raw (w.alloc (Obj.cells #[.int .u32 1] 142)) (some ⟨w.heap.size,0,none⟩) 1 1 1:=by
 have ha:=aT.alloc w 142 (dr [1]);exact ⟨[1],rfl,rfl,ha.limbs (Small.one aq) aG⟩
def KV (n m k qb:Nat) (wq w2:World) (s5 UC:Value) (wr:World):Prop:=
 ∃(j:Nat) (a5:Option Addr) (c5:Nat) (Q:List Nat),j<=iw n/\Raw wr a5 (len (n/2^j % m)) c5 (n/2^j % m)/\Fr wq.heap.size a5/\Q.length=k/\Small Q/\val Q=n/2^j/m*2^j/\aT wr qb 142 (dr Q)/\Ext w2 wr/\wq.heap.size<=wr.heap.size/\s5= .slice a5 (len (n/2^j % m)) c5/\UC= .int .i64 ((j:Int)-1)
theorem vr (w:World) (a b:Option Addr) (k k' c c' n m:Nat) (ha:Raw w a k c n) (hb:Raw w b k' c' m) (hm:0<m) (hk:k<900000000) (Qy:k'<900000000) (AJ: ¬(n<18446744073709551616/\m<18446744073709551616)):
 Calls prog 163 #[.slice a k c,.slice b k' c'] w (pC (n/m) (n % m) w):=by
 have pm:=gM.2 hm;have wI:=hb.cI;have Nn:=ha.cI;have QF:(((len m:Nat):Int)==0)=false:=by rw [beq_eq_false_iff_ne];omega
 have Tf:iw n<=32*len n:=oK (by rw [<-pow_eq];exact iq n);go_enter func163,ntmps163
 go_wp2_with fail
 refine (eQ _ _ _ _ _ hb).mono ?_;rintro e w1 ⟨a1,c1,rfl,r1,f1,x1⟩;go_upto_region 4 with fail
 go_cut [7,8] (λs7 s8 wx=> ∃(x:Nat) (sm:Bool),s7= .int .u64 x/\s8= .bool sm/\Hid (sm=true->n<18446744073709551616)/\Ext w1 wx)
 case first=>
  by_cases hn:n<18446744073709551616
  .go_wp2_with fail
   refine (jY _ _ _ _ _ (ha.ext x1) hn).mono ?_;rintro e w2 ⟨rfl,x2⟩;go_wp2
   go_meet
   exact ⟨n,true,rfl,rfl,(show _->_ from λ_=>hn),x2⟩
  .go_wp2_with fail
   refine (rJ _ _ _ _ _ (ha.ext x1) ae).mono ?_;rintro e w2 ⟨rfl,x2⟩;go_wp2
   go_meet
   exact ⟨0,false,rfl,rfl,(show _->_ from λh=>by cases h),x2⟩
 case rest=>
  obtain ⟨x,sm,rfl,rfl,hsm,x2⟩:=hcut;go_upto_region 5 with fail
  go_cut [9,10] (λs9 s10 wx=> ∃(x:Nat) (sm:Bool),s9= .int .u64 x/\s10= .bool sm/\Hid (sm=true->m<18446744073709551616)/\Ext w1 wx)
  case first=>
   by_cases J6:m<18446744073709551616
   .go_wp2_with fail
    refine (jY _ _ _ _ _ (r1.ext x2) J6).mono ?_;rintro e w2 ⟨rfl,x3⟩;go_wp2
    go_meet
    exact ⟨m,true,rfl,rfl,(show _->_ from λ_=>J6),x2.trans x3⟩
   .go_wp2_with fail
    refine (rJ _ _ _ _ _ (r1.ext x2) ae).mono ?_;rintro e w2 ⟨rfl,x3⟩;go_wp2
    go_meet
    exact ⟨0,false,rfl,rfl,(show _->_ from λh=>by cases h),x2.trans x3⟩
  case rest=>
   obtain ⟨x',ft,rfl,rfl,hft,x3⟩:=hcut;go_upto_region 6 with fail
   go_cut [32] (λs32 wx=>s32= .bool false/\Ext w1 wx)
   case first=>
    cases sm with
    |true=>
     cases ft with
     |true=>exact absurd ⟨hsm.o rfl,hft.o rfl⟩ AJ
     |false=>
      go_wp2
      go_meet
      exact ⟨rfl,x3⟩
    |false=>
     go_wp2
     go_meet
     exact ⟨rfl,x3⟩
   case rest=>
    obtain ⟨rfl,x4⟩:=hcut;clear x2 x3 hsm hft;obtain ⟨w4,rfl⟩: ∃w4:World,w4=wc:=⟨_,rfl⟩;have G7:=ha.ext (x1.trans x4);go_wp2_with (at_make;refine bS _ rfl _ _ 88 rfl 142 (.int .u32 0) 4 underlying88 Tryz.info_u32 rfl _ _ k rfl rfl bf bf ae ae ?_;intro w5 hw5 eP UD)
    refine (N4 _ _ _ _ _ (G7.ext eP)).mono ?_;rintro e w6 ⟨rfl,x6⟩;go_wp2_with fail
    have UE:val (List.replicate k 0)=n/2^iw n/m*2^iw n:=by
     rw [jT,Nat.div_eq_of_lt (mH n),Nat.zero_div,Nat.zero_mul]
    have Q_:n/2^iw n % m=0:=by rw [Nat.div_eq_of_lt (mH n),Nat.zero_mod]
    have HS:Hid (KV n m k w4.heap.size w5 w4 (.slice none 0 0) (.int .i64 ((iw n:Int)-1)) w6):=
     ⟨iw n,none,0,List.replicate k 0,bY,by rw [Q_];exact Raw.nil _,Fr.none _,aG,Small.replicate _,UE,aT.ext (by have:=hw5.o;rwa [cW]at this) x6,eP.trans x6,x6.size,by rw [Q_];rfl,rfl⟩
    have rB:=r1.ext x4;have UF:=UD.o;have HZ5:=ah UF;clear UE Q_ hw5 UD UF x6;go_loopw [5,11] (λs5 UC wr=>KV n m k w4.heap.size w5 w4 s5 UC wr) (λ_ UC _=>(intOf UC+1).toNat)
    case atStart=>exact HS.o
    case round=>
     obtain ⟨j,a5,c5,Q,hj,rR,fR,UG,PI,hQV,UH,tR,YD,rfl,rfl⟩:=hrel;have IG:=ah UG;have PJ:=ah hQV;have Ra:=ah UH
     clear UG hQV UH;by_cases h0:0<j
     .obtain ⟨i,rfl⟩: ∃i,j=i+1:=⟨j-1,ae⟩
      rw [show(((i+1:Nat):Int)-1)=(i:Int)from by omega];have hik:i/32<k:=ae;have zv:=ah (N2 PI PJ.o (by rw [IG.o];exact hik));have HOR:=ah (Fj (limb Q (i/32)) (i % 32) (bQ PI _) (Nat.mod_lt _ aq));have hlx:=bQ PI (i/32);have J7:=IE n i;have hRm:=Nat.mod_lt (n/2^(i+1)) hm;have hlR:=df (Nat.le_of_lt hRm)
      have hl2:len (n/2^(i+1) % m+n/2^(i+1) % m)<=len m+1:=by
       exact N5 hRm
      have g0:(0:Int)<=(i:Int):=ae;rcases Nat.mod_two_eq_zero_or_one (n/2^i)with hb0|hb1
      .have J8:=ah hb0
       obtain ⟨Im,J9⟩:=GZ (n/2^(i+1)) m 0 hm aq;rw [hb0,Nat.add_zero]at J7;simp only [Nat.add_zero]at Im J9;rw [<-J7]at Im J9;clear hb0;by_cases mE:m<=2*(n/2^(i+1) % m)
       .have Rb:=ah (Im mE)
        have HHB:=ah J7;clear Im J9 J7;generalize n/2^(i+1) % m=R at*;go_wp2_with fail
        refine (qo _ _ _ _ _ _ _ _ _ rR rR ae ae).mono ?_;rintro e u1 ⟨a6,c6,rfl,r6,f6,x6⟩;have qp:=Bd u1 _ _ _ _ i ((G7.ext tR).ext x6) ae;rw [J8.o]at qp;go_wp2_with fail
        refine qp.mono ?_;rintro e u2 ⟨rfl,rfl⟩;clear qp;obtain ⟨u3,a8,c8,r8,xx,UI,rfl,rfl,rfl⟩: ∃u3 a8 c8,Raw u3 a8 (len (R+R)) c8 (R+R)/\Ext wr u3/\Fr wr.heap.size a8/\u3=u2/\a8=a6/\c8=c6:=⟨u2,a6,c6,r6,x6,f6,rfl,rfl,rfl⟩;go_wp2_with fail
        refine (Bb _ _ _ _ _ _ _ _ _ r8 ((rB.ext tR).ext xx) ae).mono ?_;rintro e u4 ⟨a9,c9,rfl,r9,f9,x9⟩;have xw:=xx.trans x9;have Rc:=aT.ext Ra.o xw;have hst:=Bc (i:=i/32) Rc (by rw [IG.o];omega);have qL:=Rc.frozen (i/32);have HAQ:=ah (λv hv=>vR (i:=i/32) Rc (limb Q (i/32)|||2^(i % 32)) v hv);have UJ:=f9.mono xx.size;go_wp2_with fail
        rw [HOR.o]
        go_roundw
        case rel=>
         have KW:=Rb.o;have Re:(R+R)-m=n/2^i % m:=by rw [KW.2];omega
         rw [Re]at r9⊢;have hz9:=xw.size;refine ⟨i,a9,c9,Q.set (i/32) (limb Q (i/32)|||2^(i % 32)),ae,?_,UJ.mono YD,by simp [IG.o],PI.set _ _ zv.o.1,?_,HAQ.o _ rfl,(tR.trans xw).setCell bY _,?_,rfl,rfl⟩
         .exact r9.setCell _ _ (λx e=>by have h5:=UJ x e;have h6:=Ra.o.lt;simp only;omega)
         .rw [zv.o.2,KW.1]
          generalize n/2^(i+1)/m=q;rw [Nat.add_mul,Nat.pow_succ,Nat.one_mul,YC]
         .simp [World.setCell];omega
        case measure=>simp [intOf]<;>omega
       .have Rb:=ah (J9 mE)
        have HHB:=ah J7;clear Im J9 J7;generalize n/2^(i+1) % m=R at*;go_wp2_with fail
        refine (qo _ _ _ _ _ _ _ _ _ rR rR ae ae).mono ?_;rintro e u1 ⟨a6,c6,rfl,r6,f6,x6⟩;have qp:=Bd u1 _ _ _ _ i ((G7.ext tR).ext x6) ae;rw [J8.o]at qp;go_wp2_with fail
        refine qp.mono ?_;rintro e u2 ⟨rfl,rfl⟩;clear qp;obtain ⟨u3,a8,c8,r8,xx,UI,rfl,rfl,rfl⟩: ∃u3 a8 c8,Raw u3 a8 (len (R+R)) c8 (R+R)/\Ext wr u3/\Fr wr.heap.size a8/\u3=u2/\a8=a6/\c8=c6:=⟨u2,a6,c6,r6,x6,f6,rfl,rfl,rfl⟩;go_wp2_with fail
        refine (tP _ _ _ _ _ _ _ _ _ r8 ((rB.ext tR).ext xx) ae).mono ?_;rintro e u4 ⟨rfl,x9⟩;have xw:=xx.trans x9;go_wp2_with fail
        go_roundw
        case rel=>
         have KW:=Rb.o;have Re:(R+R)=n/2^i % m:=by rw [KW.2];omega
         rw [Re]at r8⊢;refine ⟨i,a8,c8,Q,ae,r8.ext x9,UI.mono YD,IG.o,PI,?_,aT.ext Ra.o xw,tR.trans xw,bA xw.size,rfl,rfl⟩;rw [PJ.o,KW.1];generalize n/2^(i+1)/m=q;rw [Nat.pow_succ,YC]
        case measure=>simp [intOf]<;>omega
      .have J8:=ah hb1
       obtain ⟨Im,J9⟩:=GZ (n/2^(i+1)) m 1 hm aq;rw [hb1]at J7;rw [<-J7]at Im J9;clear hb1;by_cases mE:m<=2*(n/2^(i+1) % m)+1
       .have Rb:=ah (Im mE)
        have HHB:=ah J7;clear Im J9 J7;generalize n/2^(i+1) % m=R at*;go_wp2_with fail
        refine (qo _ _ _ _ _ _ _ _ _ rR rR ae ae).mono ?_;rintro e u1 ⟨a6,c6,rfl,r6,f6,x6⟩;have qp:=Bd u1 _ _ _ _ i ((G7.ext tR).ext x6) ae;rw [J8.o]at qp;go_wp2_with fail
        refine qp.mono ?_;rintro e u2 ⟨rfl,rfl⟩;clear qp;go_wp2_with fail
        have r1:=oL u2;have x7:Ext u2 (u2.alloc (Obj.cells #[.int .u32 1] 142)):=ar.alloc _;refine (qo _ _ _ _ _ _ _ _ _ (r6.ext x7) r1 ae ae).mono ?_;rintro e u3 ⟨a8,c8,rfl,r8,f8,x8⟩;have xx:=(x6.trans x7).trans x8;have UI:=f8.mono (Nat.le_trans x6.size x7.size);go_wp2_with fail
        refine (Bb _ _ _ _ _ _ _ _ _ r8 ((rB.ext tR).ext xx) ae).mono ?_;rintro e u4 ⟨a9,c9,rfl,r9,f9,x9⟩;have xw:=xx.trans x9;have Rc:=aT.ext Ra.o xw;have hst:=Bc (i:=i/32) Rc (by rw [IG.o];omega);have qL:=Rc.frozen (i/32);have HAQ:=ah (λv hv=>vR (i:=i/32) Rc (limb Q (i/32)|||2^(i % 32)) v hv);have UJ:=f9.mono xx.size;go_wp2_with fail
        rw [HOR.o]
        go_roundw
        case rel=>
         have KW:=Rb.o;have Re:(R+R+1)-m=n/2^i % m:=by rw [KW.2];omega
         rw [Re]at r9⊢;have hz9:=xw.size;refine ⟨i,a9,c9,Q.set (i/32) (limb Q (i/32)|||2^(i % 32)),ae,?_,UJ.mono YD,by simp [IG.o],PI.set _ _ zv.o.1,?_,HAQ.o _ rfl,(tR.trans xw).setCell bY _,?_,rfl,rfl⟩
         .exact r9.setCell _ _ (λx e=>by have h5:=UJ x e;have h6:=Ra.o.lt;simp only;omega)
         .rw [zv.o.2,KW.1]
          generalize n/2^(i+1)/m=q;rw [Nat.add_mul,Nat.pow_succ,Nat.one_mul,YC]
         .simp [World.setCell];omega
        case measure=>simp [intOf]<;>omega
       .have Rb:=ah (J9 mE)
        have HHB:=ah J7;clear Im J9 J7;generalize n/2^(i+1) % m=R at*;go_wp2_with fail
        refine (qo _ _ _ _ _ _ _ _ _ rR rR ae ae).mono ?_;rintro e u1 ⟨a6,c6,rfl,r6,f6,x6⟩;have qp:=Bd u1 _ _ _ _ i ((G7.ext tR).ext x6) ae;rw [J8.o]at qp;go_wp2_with fail
        refine qp.mono ?_;rintro e u2 ⟨rfl,rfl⟩;clear qp;go_wp2_with fail
        have r1:=oL u2;have x7:Ext u2 (u2.alloc (Obj.cells #[.int .u32 1] 142)):=ar.alloc _;refine (qo _ _ _ _ _ _ _ _ _ (r6.ext x7) r1 ae ae).mono ?_;rintro e u3 ⟨a8,c8,rfl,r8,f8,x8⟩;have xx:=(x6.trans x7).trans x8;have UI:=f8.mono (Nat.le_trans x6.size x7.size);go_wp2_with fail
        refine (tP _ _ _ _ _ _ _ _ _ r8 ((rB.ext tR).ext xx) ae).mono ?_;rintro e u4 ⟨rfl,x9⟩;have xw:=xx.trans x9;go_wp2_with fail
        go_roundw
        case rel=>
         have KW:=Rb.o;have Re:(R+R+1)=n/2^i % m:=by rw [KW.2];omega
         rw [Re]at r8⊢;refine ⟨i,a8,c8,Q,ae,r8.ext x9,UI.mono YD,IG.o,PI,?_,aT.ext Ra.o xw,tR.trans xw,bA xw.size,rfl,rfl⟩;rw [PJ.o,KW.1];generalize n/2^(i+1)/m=q;rw [Nat.pow_succ,YC]
        case measure=>simp [intOf]<;>omega
     .obtain rfl:j=0:=ae
      have QI:=PJ.o;rw [Nat.pow_zero,Nat.div_one,Nat.mul_one]at QI;rw [Nat.pow_zero,Nat.div_one]at rR⊢
      have KI:Raw wr (some ⟨w4.heap.size,0,none⟩) k k (n/m):=by
       have h3:=Ra.o.limbs PI (by rw [IG.o];omega);rw [IG.o]at h3;exact ⟨Q,IG.o,QI,h3⟩
      have RQ:=ah KI;clear KI QI;go_wp2_with fail
      refine (eQ _ _ _ _ _ RQ.o).mono ?_;rintro e u1 ⟨a6,c6,rfl,r6,f6,x6⟩;go_wp2_with fail
      refine (eQ _ _ _ _ _ (rR.ext x6)).mono ?_;rintro e u2 ⟨a7,c7,rfl,r7,f7,x7⟩;go_wp2_with fail
      go_ret3
      have kJ:=(x1.trans x4).trans tR;exact ⟨a6,c6,a7,c7,rfl,r6.ext x7,f6.mono kJ.size,r7,f7.mono (Nat.le_trans kJ.size x6.size),(kJ.trans x6).trans x7⟩
theorem zx (w:World) (a b:Option Addr) (k k' c c' n m:Nat) (ha:Raw w a k c n) (hb:Raw w b k' c' m) (hm:0<m) (hk:k<900000000) (Qy:k'<900000000):
 Calls prog 163 #[.slice a k c,.slice b k' c'] w (pC (n/m) (n % m) w):=by
 by_cases h:n<18446744073709551616/\m<18446744073709551616
 .exact vq w a b k k' c c' n m ha hb hm h.1 h.2
 .exact vr w a b k k' c c' n m ha hb hm hk Qy h
def KX (g n m L:Nat) (w:World) (s0 s1:Value) (wr:World):Prop:=
 ∃(A B:Nat) (a b:Option Addr) (c c':Nat),B<=g/\Nat.gcd A B=Nat.gcd n m/\len A<=L/\len B<=L/\Raw wr a (len A) c A/\Raw wr b (len B) c' B/\Fr w.heap.size a/\Fr w.heap.size b/\Ext w wr/\s0= .slice a (len A) c/\s1= .slice b (len B) c'
theorem Rf (w:World) (a b:Option Addr) (k k' c c' n m:Nat) (ha:Raw w a k c n) (hb:Raw w b k' c' m) (hk:len n<900000000) (Qy:len m<900000000):
 Calls prog 162 #[.slice a k c,.slice b k' c'] w (iL (Nat.gcd n m) w):=by
 go_enter func162,ntmps162
 go_wp2_with fail
 refine (eQ _ _ _ _ _ ha).mono ?_;rintro e w1 ⟨a1,c1,rfl,r1,f1,x1⟩;go_wp2_with fail
 refine (eQ _ _ _ _ _ (hb.ext x1)).mono ?_;rintro e w2 ⟨a2,c2,rfl,r2,f2,x2⟩;have HS:Hid (KX m n m 899999999 w (.slice a1 (len n) c1) (.slice a2 (len m) c2) w2):=⟨n,m,a1,a2,c1,c2,bY,rfl,ae,ae,r1.ext x2,r2,f1,f2.mono x1.size,x1.trans x2,rfl,rfl⟩;clear r1 r2 f1 f2 x1 x2;go_wp2_with fail
 go_loopg [0,1] m (λg s0 s1 wr=>KX g n m 899999999 w s0 s1 wr)
 case atStart=>exact HS.o
 case round=>
  obtain ⟨A,B,a,b,c,c',hg,KJ,hlA,Yu,rA,rB,fA,fB,hx,rfl,rfl⟩:=hrel;have PB:=ah KJ;clear KJ;by_cases hB:B=0
  .subst hB
   rw [oC];go_wp2
   go_ret;have hg0:=PB.o;rw [Nat.gcd_zero_right]at hg0;rw [<-hg0];exact ⟨_,_,rfl,rA,fA,hx⟩
  .have pB:=gM.2 (Nat.pos_of_ne_zero hB)
   go_wp2_with fail
   refine (zx _ _ _ _ _ _ _ _ _ rA rB (Nat.pos_of_ne_zero hB) ae ae).mono ?_;rintro e w2 ⟨a2,c2,a3,c3,rfl,r2,f2,r3,f3,x2⟩;have hlt:=Nat.mod_lt A (Nat.pos_of_ne_zero hB);have hl3:=df (Nat.le_of_lt hlt);go_wp2_with fail
   go_roundg (A % B)
   case measure=>omega
   case rel=>exact ⟨B,A % B,b,a3,c',c3,bY,by rw [<-PB.o,Nat.gcd_comm B,<-Nat.gcd_rec,Nat.gcd_comm],Yu,ae,rB.ext x2,r3,fB,f3.mono hx.size,hx.trans x2,rfl,rfl⟩
theorem fc (z:Int):bp (decide (z<0)) z.natAbs=z:=by
 unfold bp;by_cases h:z<0<;>simp [h]<;>omega
theorem jb (w:World) (s:Bool) (a:Option Addr) (k c n:Nat) (h:Raw w a k c n):
 Calls prog 141 #[.bool s,.slice a k c] w (bB (bp s n) w):=by
 have hl:=h.cI;have hle:=h.le;cases s with
 |false=>
  go_enter func141,ntmps141
  go_wp2_with fail
  obtain ⟨W,hW,x0,Z0,A0⟩:=aV w 90 [.bool false,.slice none 0 0];rw [<-hW];clear hW;obtain ⟨aM,bg,bL,bM⟩:=aH A0 ar;have z0:=(A0.ext ar).lt;refine (eQ _ _ _ _ _ (h.ext x0)).mono ?_;rintro e w1 ⟨a1,c1,rfl,hr1,jI,hx1⟩;obtain ⟨aM,bg,bL,bM⟩:=aH A0 hx1;have z0:=(A0.ext hx1).lt;have fin:=bB.h_ (s:=false) hr1 jI hx1 ⟨rfl,ar⟩;rw [Bool.false_and]at fin;go_wp2
  exact bodyPost_ret (by simp [results,results141,go_sem,aM,bg]) rfl (bB.bt fin x0 (Touch.two _ bY (by rw [Z0.o];omega) _ _))
 |true=>
  by_cases h0:0<len n
  .have d0:decide ((0:Int)<((len n:Nat):Int))=true:=by simp;exact h0
   go_enter func141,ntmps141
   go_wp2_with fail
   obtain ⟨W,hW,x0,Z0,A0⟩:=aV w 90 [.bool false,.slice none 0 0];rw [<-hW];clear hW;obtain ⟨aM,bg,bL,bM⟩:=aH A0 ar;have z0:=(A0.ext ar).lt;refine (eQ _ _ _ _ _ (h.ext x0)).mono ?_;rintro e w1 ⟨a1,c1,rfl,hr1,jI,hx1⟩;obtain ⟨aM,bg,bL,bM⟩:=aH A0 hx1;have z0:=(A0.ext hx1).lt;have fin:=bB.h_ (s:=true) hr1 jI hx1 ⟨rfl,ar⟩;rw [decide_eq_true h0,Bool.true_and]at fin;go_wp2
   exact bodyPost_ret (by simp [results,results141,go_sem,aM,bg]) rfl (bB.bt fin x0 (Touch.two _ bY (by rw [Z0.o];omega) _ _))
  .have d0:decide ((0:Int)<((len n:Nat):Int))=false:=by simp;omega
   go_enter func141,ntmps141
   go_wp2_with fail
   obtain ⟨W,hW,x0,Z0,A0⟩:=aV w 90 [.bool false,.slice none 0 0];rw [<-hW];clear hW;obtain ⟨aM,bg,bL,bM⟩:=aH A0 ar;have z0:=(A0.ext ar).lt;refine (eQ _ _ _ _ _ (h.ext x0)).mono ?_;rintro e w1 ⟨a1,c1,rfl,hr1,jI,hx1⟩;obtain ⟨aM,bg,bL,bM⟩:=aH A0 hx1;have z0:=(A0.ext hx1).lt;have fin:=bB.h_ (s:=true) hr1 jI hx1 ⟨rfl,ar⟩;rw [decide_eq_false h0,Bool.and_false]at fin;go_wp2
   exact bodyPost_ret (by simp [results,results141,go_sem,aM,bg]) rfl (bB.bt fin x0 (Touch.two _ bY (by rw [Z0.o];omega) _ _))
theorem rK (w:World) (s:Bool) (a:Option Addr) (k c n:Nat) (h:Raw w a k c n):
 Calls prog 136 #[.agg #[.bool s,.slice a k c]] w (bB (bp s n) w):=by
 go_enter func136,ntmps136
 go_wp2_with fail
 obtain ⟨W,hW,x0,Z0,A0,A1⟩:=dZ w 90 [.bool s,.slice a k c] 90 [.bool false,.slice none 0 0];rw [<-hW];clear hW;have aM:=aH A0 ar;have z0:=(A0.ext ar).lt;obtain ⟨aU,bq,cA,cC⟩:=aH A1 ar;have z1:=(A1.ext ar).lt;refine (jb _ s _ _ _ _ (h.ext x0)).mono ?_;rintro e w1 fin;obtain ⟨a1,c1,rfl,hr1,jI,hx1⟩:=id fin;have aM:=aH A0 hx1;have z0:=(A0.ext hx1).lt;obtain ⟨aU,bq,cA,cC⟩:=aH A1 hx1;have z1:=(A1.ext hx1).lt;go_wp2
 exact bodyPost_ret (by simp [results,results136,go_sem,aU,bq]) rfl (bB.bt fin x0 (Touch.two _ ae (by rw [Z0.o];omega) _ _))
theorem Be (w:World) (s:Bool) (a:Option Addr) (k c n:Nat) (h:Raw w a k c n):
 Calls prog 140 #[.agg #[.bool s,.slice a k c]] w (bB (-bp s n) w):=by
 rw [<-AO];go_enter func140,ntmps140
 go_wp2_with fail
 obtain ⟨W,hW,x0,Z0,A0,A1⟩:=dZ w 90 [.bool s,.slice a k c] 90 [.bool false,.slice none 0 0];rw [<-hW];clear hW;have aM:=aH A0 ar;have z0:=(A0.ext ar).lt;obtain ⟨aU,bq,cA,cC⟩:=aH A1 ar;have z1:=(A1.ext ar).lt;refine (jb _ (!s) _ _ _ _ (h.ext x0)).mono ?_;rintro e w1 fin;obtain ⟨a1,c1,rfl,hr1,jI,hx1⟩:=id fin;have aM:=aH A0 hx1;have z0:=(A0.ext hx1).lt;obtain ⟨aU,bq,cA,cC⟩:=aH A1 hx1;have z1:=(A1.ext hx1).lt;go_wp2
 exact bodyPost_ret (by simp [results,results140,go_sem,aU,bq]) rfl (bB.bt fin x0 (Touch.two _ ae (by rw [Z0.o];omega) _ _))
theorem Rg (w:World) (s:Bool) (a:Option Addr) (k c n:Nat) (h:Raw w a k c n):
 Calls prog 164 #[.agg #[.bool s,.slice a k c]] w (bB ((n:Int)) w):=by
 rw [<-ep];go_enter func164,ntmps164
 go_wp2_with fail
 obtain ⟨W,hW,x0,Z0,A0,A1⟩:=dZ w 90 [.bool s,.slice a k c] 90 [.bool false,.slice none 0 0];rw [<-hW];clear hW;have aM:=aH A0 ar;have z0:=(A0.ext ar).lt;obtain ⟨aU,bq,cA,cC⟩:=aH A1 ar;have z1:=(A1.ext ar).lt;refine (jb _ false _ _ _ _ (h.ext x0)).mono ?_;rintro e w1 fin;obtain ⟨a1,c1,rfl,hr1,jI,hx1⟩:=id fin;have aM:=aH A0 hx1;have z0:=(A0.ext hx1).lt;obtain ⟨aU,bq,cA,cC⟩:=aH A1 hx1;have z1:=(A1.ext hx1).lt;go_wp2
 exact bodyPost_ret (by simp [results,results164,go_sem,aU,bq]) rfl (bB.bt fin x0 (Touch.two _ ae (by rw [Z0.o];omega) _ _))
theorem k9 (w:World) (v:Int) (h1: -9223372036854775808<=v) (h2:v<=9223372036854775807):
 Calls prog 82 #[.int .i64 v] w (bB v w):=by
 by_cases h0:v<0
 .obtain ⟨n,rfl⟩: ∃n:Nat,v= -(n:Int):=⟨v.natAbs,ae⟩
  go_enter func82,ntmps82
  go_wp2_with fail
  obtain ⟨W,hW,x0,Z0,A0⟩:=aV w 90 [.bool false,.slice none 0 0];rw [<-hW];clear hW;obtain ⟨aM,bg,bL,bM⟩:=aH A0 ar;have z0:=(A0.ext ar).lt;rw [show-(-(n:Int)+1)+1=(n:Int)from by omega];refine (jX _ n ae).mono ?_;rintro e w1 ⟨a1,c1,rfl,hr1,jI,hx1⟩;obtain ⟨aM,bg,bL,bM⟩:=aH A0 hx1;have z0:=(A0.ext hx1).lt;go_wp2_with fail
  refine (jb _ true _ _ _ _ hr1).mono ?_;rintro e w2 Bf;have fin:=Bf.base hx1;obtain ⟨a2,c2,rfl,hr2,hf2,hx2⟩:=id fin;obtain ⟨aM,bg,bL,bM⟩:=aH A0 hx2;have z0:=(A0.ext hx2).lt;go_wp2
  exact bodyPost_ret (by simp [results,results82,go_sem,aM,bg]) rfl (bB.bt fin x0 (Touch.two _ bY (by rw [Z0.o];omega) _ _))
 .obtain ⟨n,rfl⟩: ∃n:Nat,v=(n:Int):=⟨v.natAbs,ae⟩
  have e1:IntKind.u64.wrap (n:Int)=(n:Int):=by rw [IntKind.wrap_u64];omega
  go_enter func82,ntmps82
  go_wp2_with fail
  obtain ⟨W,hW,x0,Z0,A0⟩:=aV w 90 [.bool false,.slice none 0 0];rw [<-hW];clear hW;obtain ⟨aM,bg,bL,bM⟩:=aH A0 ar;have z0:=(A0.ext ar).lt;refine (jX _ n ae).mono ?_;rintro e w1 ⟨a1,c1,rfl,hr1,jI,hx1⟩;obtain ⟨aM,bg,bL,bM⟩:=aH A0 hx1;have z0:=(A0.ext hx1).lt;go_wp2_with fail
  refine (jb _ false _ _ _ _ hr1).mono ?_;rintro e w2 Bf;have fin:=Bf.base hx1;obtain ⟨a2,c2,rfl,hr2,hf2,hx2⟩:=id fin;obtain ⟨aM,bg,bL,bM⟩:=aH A0 hx2;have z0:=(A0.ext hx2).lt;go_wp2
  exact bodyPost_ret (by simp [results,results82,go_sem,aM,bg]) rfl (bB.bt fin x0 (Touch.two _ bY (by rw [Z0.o];omega) _ _))
theorem Rh (w:World) (s t:Bool) (a b:Option Addr) (k c k' c' n m:Nat) (h:Raw w a k c n) (h':Raw w b k' c' m) (b1:k<1000000000) (b2:k'<1000000000):
 Calls prog 156 #[.agg #[.bool s,.slice a k c],.agg #[.bool t,.slice b k' c']] w (bB (bp s n*bp t m) w):=by
 rw [<-GU];go_enter func156,ntmps156
 go_wp2_with fail
 obtain ⟨W,hW,x0,Z0,A0,A1,A2⟩:=fC w 90 [.bool s,.slice a k c] 90 [.bool t,.slice b k' c'] 90 [.bool false,.slice none 0 0];rw [<-hW];clear hW;obtain ⟨aM,bg,bL,bM⟩:=aH A0 ar;have z0:=(A0.ext ar).lt;obtain ⟨aU,bq,cA,cC⟩:=aH A1 ar;have z1:=(A1.ext ar).lt;obtain ⟨bK,cD,cT,cU⟩:=aH A2 ar;have z2:=(A2.ext ar).lt
 go_region_held3 (λw'=>w'.cell? ⟨w.heap.size,0,none⟩=some (.bool s)/\w'.cell? ⟨w.heap.size,1,none⟩=some (.slice a k c)/\w'.cell? ⟨w.heap.size+1,0,none⟩=some (.bool t)/\w'.cell? ⟨w.heap.size+1,1,none⟩=some (.slice b k' c')) (first|exact ⟨aM,bg,aU,bq⟩|(simp [go_sem,aM,bg,aU,bq])) (first
  |(go_at_call 177;refine (Q9 _ _ _ _ _ _ _ _ _ ((h.ext x0).ext (by exact ar.drew)) ((h'.ext x0).ext (by exact ar.drew)) b1 b2).mono ?_;rintro e w1 ⟨a1,c1,rfl,hr1,jI,hx1⟩;obtain ⟨aM,bg,bL,bM⟩:=aH A0 ((ar.drew).trans hx1);have z0:=(A0.ext ((ar.drew).trans hx1)).lt;obtain ⟨aU,bq,cA,cC⟩:=aH A1 ((ar.drew).trans hx1);have z1:=(A1.ext ((ar.drew).trans hx1)).lt;obtain ⟨bK,cD,cT,cU⟩:=aH A2 ((ar.drew).trans hx1);have z2:=(A2.ext ((ar.drew).trans hx1)).lt)
  |(go_at_call 141;refine (jb _ _ _ _ _ _ hr1).mono ?_;rintro e w2 ⟨a2,c2,rfl,hr2,hf2,hx2⟩;obtain ⟨aM,bg,bL,bM⟩:=aH A0 (((ar.drew).trans hx1).trans hx2);have z0:=(A0.ext (((ar.drew).trans hx1).trans hx2)).lt;obtain ⟨aU,bq,cA,cC⟩:=aH A1 (((ar.drew).trans hx1).trans hx2);have z1:=(A1.ext (((ar.drew).trans hx1).trans hx2)).lt;obtain ⟨bK,cD,cT,cU⟩:=aH A2 (((ar.drew).trans hx1).trans hx2);have z2:=(A2.ext (((ar.drew).trans hx1).trans hx2)).lt))
 have fin:bB (bp (s !=t) (n*m)) W.drew _ w2:=⟨a2,c2,rfl,hr2,hf2.mono hx1.size,hx1.trans hx2⟩;go_wp2
 exact bodyPost_ret (by simp [results,results156,go_sem,bK,cD];cases s<;>cases t<;>simp) rfl (bB.bt fin x0.drew (Touch.two _ ae (by rw [World.drew,Z0.o];omega) _ _))
theorem CV (w:World) (s:Bool) (a b:Option Addr) (k c k' c' n m:Nat) (h:Raw w a k c n) (h':Raw w b k' c' m) (b1:k<1000000000) (b2:k'<1000000000):
 Calls prog 155 #[.agg #[.bool s,.slice a k c],.agg #[.bool s,.slice b k' c']] w (bB (bp s n+bp s m) w):=by
 rw [<-GV];go_enter func155,ntmps155
 go_wp2_with fail
 obtain ⟨W,hW,x0,Z0,A0,A1,A2⟩:=fC w 90 [.bool s,.slice a k c] 90 [.bool s,.slice b k' c'] 90 [.bool false,.slice none 0 0];rw [<-hW];clear hW;obtain ⟨aM,bg,bL,bM⟩:=aH A0 ar;have z0:=(A0.ext ar).lt;obtain ⟨aU,bq,cA,cC⟩:=aH A1 ar;have z1:=(A1.ext ar).lt;obtain ⟨bK,cD,cT,cU⟩:=aH A2 ar;have z2:=(A2.ext ar).lt
 go_region_held3 (λw'=>w'.cell? ⟨w.heap.size,0,none⟩=some (.bool s)/\w'.cell? ⟨w.heap.size,1,none⟩=some (.slice a k c)/\w'.cell? ⟨w.heap.size+1,0,none⟩=some (.bool s)/\w'.cell? ⟨w.heap.size+1,1,none⟩=some (.slice b k' c')) (first|exact ⟨aM,bg,aU,bq⟩|(simp [go_sem,aM,bg,aU,bq])) (first
  |(go_at_call 175;refine (qo _ _ _ _ _ _ _ _ _ ((h.ext x0).ext (by exact ar.drew)) ((h'.ext x0).ext (by exact ar.drew)) b1 b2).mono ?_;rintro e w1 ⟨a1,c1,rfl,hr1,jI,hx1⟩;obtain ⟨aM,bg,bL,bM⟩:=aH A0 ((ar.drew).trans hx1);have z0:=(A0.ext ((ar.drew).trans hx1)).lt;obtain ⟨aU,bq,cA,cC⟩:=aH A1 ((ar.drew).trans hx1);have z1:=(A1.ext ((ar.drew).trans hx1)).lt;obtain ⟨bK,cD,cT,cU⟩:=aH A2 ((ar.drew).trans hx1);have z2:=(A2.ext ((ar.drew).trans hx1)).lt)
  |(go_at_call 141;refine (jb _ _ _ _ _ _ hr1).mono ?_;rintro e w2 ⟨a2,c2,rfl,hr2,hf2,hx2⟩;obtain ⟨aM,bg,bL,bM⟩:=aH A0 (((ar.drew).trans hx1).trans hx2);have z0:=(A0.ext (((ar.drew).trans hx1).trans hx2)).lt;obtain ⟨aU,bq,cA,cC⟩:=aH A1 (((ar.drew).trans hx1).trans hx2);have z1:=(A1.ext (((ar.drew).trans hx1).trans hx2)).lt;obtain ⟨bK,cD,cT,cU⟩:=aH A2 (((ar.drew).trans hx1).trans hx2);have z2:=(A2.ext (((ar.drew).trans hx1).trans hx2)).lt))
 have fin:bB (bp s (n+m)) W.drew _ w2:=⟨a2,c2,rfl,hr2,hf2.mono hx1.size,hx1.trans hx2⟩;go_wp2
 exact bodyPost_ret (by simp [results,results155,go_sem,bK,cD]) rfl (bB.bt fin x0.drew (Touch.two _ ae (by rw [World.drew,Z0.o];omega) _ _))
theorem Bg (w:World) (s:Bool) (a b:Option Addr) (k c k' c' n m:Nat) (h:Raw w a k c n) (h':Raw w b k' c' m):
 Calls prog 155 #[.agg #[.bool s,.slice a k c],.agg #[.bool (!s),.slice b k' c']] w (bB (bp s n+bp (!s) m) w):=by
 have hne:(s== !s)=false:=by cases s<;>rfl
 by_cases hle:m<=n
 .rw [<-CG s n m hle]
  go_enter func155,ntmps155
  go_wp2_with fail
  obtain ⟨W,hW,x0,Z0,A0,A1,A2⟩:=fC w 90 [.bool s,.slice a k c] 90 [.bool (!s),.slice b k' c'] 90 [.bool false,.slice none 0 0];rw [<-hW];clear hW;have aM:=aH A0 ar;have z0:=(A0.ext ar).lt;have aU:=aH A1 ar;have z1:=(A1.ext ar).lt;obtain ⟨bK,cD,cT,cU⟩:=aH A2 ar;have z2:=(A2.ext ar).lt;refine (Bb _ _ _ _ _ _ _ _ _ (h.ext x0) (h'.ext x0) hle).mono ?_;rintro e w1 ⟨a1,c1,rfl,hr1,jI,hx1⟩;have aM:=aH A0 hx1;have z0:=(A0.ext hx1).lt;have aU:=aH A1 hx1;have z1:=(A1.ext hx1).lt;obtain ⟨bK,cD,cT,cU⟩:=aH A2 hx1;have z2:=(A2.ext hx1).lt;go_wp2_with fail
  refine (jb _ s _ _ _ _ hr1).mono ?_;rintro e w2 Bf;have fin:=Bf.base hx1;obtain ⟨a2,c2,rfl,hr2,hf2,hx2⟩:=id fin;have aM:=aH A0 hx2;have z0:=(A0.ext hx2).lt;have aU:=aH A1 hx2;have z1:=(A1.ext hx2).lt;obtain ⟨bK,cD,cT,cU⟩:=aH A2 hx2;have z2:=(A2.ext hx2).lt;go_wp2
  exact bodyPost_ret (by simp [results,results155,go_sem,bK,cD]) rfl (bB.bt fin x0 (Touch.two _ ae (by rw [Z0.o];omega) _ _))
 .rw [<-CH s n m ae]
  go_enter func155,ntmps155
  go_wp2_with fail
  obtain ⟨W,hW,x0,Z0,A0,A1,A2⟩:=fC w 90 [.bool s,.slice a k c] 90 [.bool (!s),.slice b k' c'] 90 [.bool false,.slice none 0 0];rw [<-hW];clear hW;have aM:=aH A0 ar;have z0:=(A0.ext ar).lt;have aU:=aH A1 ar;have z1:=(A1.ext ar).lt;obtain ⟨bK,cD,cT,cU⟩:=aH A2 ar;have z2:=(A2.ext ar).lt;refine (tP _ _ _ _ _ _ _ _ _ (h.ext x0) (h'.ext x0) ae).mono ?_;rintro e w1 ⟨rfl,js⟩;have aM:=aH A0 js;have z0:=(A0.ext js).lt;have aU:=aH A1 js;have z1:=(A1.ext js).lt;obtain ⟨bK,cD,cT,cU⟩:=aH A2 js;have z2:=(A2.ext js).lt;go_wp2_with fail
  refine (Bb _ _ _ _ _ _ _ _ _ ((h'.ext x0).ext js) ((h.ext x0).ext js) ae).mono ?_;rintro e w2 ⟨a1,c1,rfl,hr1,jI,hx1⟩;have aM:=aH A0 (js.trans hx1);have z0:=(A0.ext (js.trans hx1)).lt;have aU:=aH A1 (js.trans hx1);have z1:=(A1.ext (js.trans hx1)).lt;obtain ⟨bK,cD,cT,cU⟩:=aH A2 (js.trans hx1);have z2:=(A2.ext (js.trans hx1)).lt;go_wp2_with fail
  refine (jb _ (!s) _ _ _ _ hr1).mono ?_;rintro e w3 Bf;have fin:=Bf.base (js.trans hx1);obtain ⟨a2,c2,rfl,hr2,hf2,hx2⟩:=id fin;have aM:=aH A0 hx2;have z0:=(A0.ext hx2).lt;have aU:=aH A1 hx2;have z1:=(A1.ext hx2).lt;obtain ⟨bK,cD,cT,cU⟩:=aH A2 hx2;have z2:=(A2.ext hx2).lt;go_wp2
  exact bodyPost_ret (by simp [results,results155,go_sem,bK,cD]) rfl (bB.bt fin x0 (Touch.two _ ae (by rw [Z0.o];omega) _ _))
theorem Bh (w:World) (s t:Bool) (a b:Option Addr) (k c k' c' n m:Nat) (h:Raw w a k c n) (h':Raw w b k' c' m) (b1:k<1000000000) (b2:k'<1000000000):
 Calls prog 155 #[.agg #[.bool s,.slice a k c],.agg #[.bool t,.slice b k' c']] w (bB (bp s n+bp t m) w):=by
 by_cases e:t=s
 .subst e;exact CV w t a b k c k' c' n m h h' b1 b2
 .obtain rfl:t= !s:=by cases s<;>cases t<;>simp_all
  exact Bg w s a b k c k' c' n m h h'
theorem KY (w:World) (s t:Bool) (a b:Option Addr) (k c k' c' n m:Nat) (h:Raw w a k c n) (h':Raw w b k' c' m) (b1:len n<900000000) (b2:len m<900000000):
 Calls prog 138 #[.agg #[.bool s,.slice a k c],.agg #[.bool t,.slice b k' c']] w (bB (Nat.gcd n m:Nat) w):=by
 rw [<-ep];go_enter func138,ntmps138
 go_wp2_with fail
 obtain ⟨W,hW,x0,Z0,A0,A1,A2⟩:=fC w 90 [.bool s,.slice a k c] 90 [.bool t,.slice b k' c'] 90 [.bool false,.slice none 0 0];rw [<-hW];clear hW;have aM:=aH A0 ar;have z0:=(A0.ext ar).lt;have aU:=aH A1 ar;have z1:=(A1.ext ar).lt;obtain ⟨bK,cD,cT,cU⟩:=aH A2 ar;have z2:=(A2.ext ar).lt;refine (Rf _ _ _ _ _ _ _ _ _ (h.ext x0) (h'.ext x0) b1 b2).mono ?_;rintro e w1 ⟨a1,c1,rfl,hr1,jI,hx1⟩;have aM:=aH A0 hx1;have z0:=(A0.ext hx1).lt;have aU:=aH A1 hx1;have z1:=(A1.ext hx1).lt;obtain ⟨bK,cD,cT,cU⟩:=aH A2 hx1;have z2:=(A2.ext hx1).lt;go_wp2_with fail
 refine (jb _ false _ _ _ _ hr1).mono ?_;rintro e w2 Bf;have fin:=Bf.base hx1;obtain ⟨a2,c2,rfl,hr2,hf2,hx2⟩:=id fin;have aM:=aH A0 hx2;have z0:=(A0.ext hx2).lt;have aU:=aH A1 hx2;have z1:=(A1.ext hx2).lt;obtain ⟨bK,cD,cT,cU⟩:=aH A2 hx2;have z2:=(A2.ext hx2).lt;go_wp2
 exact bodyPost_ret (by simp [results,results138,go_sem,bK,cD]) rfl (bB.bt fin x0 (Touch.two _ ae (by rw [Z0.o];omega) _ _))
theorem Ri (w:World) (s t:Bool) (a b:Option Addr) (k c k' c' n m:Nat) (h:Raw w a k c n) (h':Raw w b k' c' m) (b1:k<1000000000) (b2:len m<1000000000):
 Calls prog 165 #[.agg #[.bool s,.slice a k c],.agg #[.bool t,.slice b k' c']] w (bB (bp s n-bp t m) w):=by
 obtain ⟨z,hz⟩: ∃z,z= -bp t m:=⟨_,rfl⟩
 have hN: ∀V,Ext w V->Calls prog 140 #[.agg #[.bool t,.slice b k' c']] V (bB z V):=by
  intro V hV;rw [hz];exact Be V t b k' c' m (h'.ext hV)
 have hA: ∀V a' c',Ext w V->Raw V a' (len z.natAbs) c' z.natAbs->Calls prog 155 #[.agg #[.bool s,.slice a k c],.agg #[.bool (decide (z<0)),.slice a' (len z.natAbs) c']] V (bB (bp s n-bp t m) V):=by
  intro V a' c' hV hR;have:=Bh V s (decide (z<0)) a a' k c _ c' n _ (h.ext hV) hR b1 (by rw [hz,Int.natAbs_neg,bF];exact b2);have e:bp s n+z=bp s n-bp t m:=by rw [hz,<-Int.sub_eq_add_neg]
  rw [fc,e]at this;exact this
 have HA:=ah hA;have HN:=ah hN;clear hA hN hz
 obtain ⟨zr,hzr⟩: ∃zr,zr=bp s n-bp t m:=⟨_,rfl⟩;rw [<-hzr]at HA⊢;clear hzr;go_enter func165,ntmps165
 go_wp2_with fail
 obtain ⟨W,hW,x0,Z0,A0,A1,A2⟩:=fC w 90 [.bool s,.slice a k c] 90 [.bool t,.slice b k' c'] 90 [.bool false,.slice none 0 0];rw [<-hW];clear hW;obtain ⟨aM,bg,bL,bM⟩:=aH A0 ar;have z0:=(A0.ext ar).lt;obtain ⟨aU,bq,cA,cC⟩:=aH A1 ar;have z1:=(A1.ext ar).lt;obtain ⟨bK,cD,cT,cU⟩:=aH A2 ar;have z2:=(A2.ext ar).lt
 go_region_held3 (λw'=>w'.cell? ⟨w.heap.size,0,none⟩=some (.bool s)/\w'.cell? ⟨w.heap.size,1,none⟩=some (.slice a k c)/\w'.cell? ⟨w.heap.size+1,0,none⟩=some (.bool t)/\w'.cell? ⟨w.heap.size+1,1,none⟩=some (.slice b k' c')) (first|exact ⟨aM,bg,aU,bq⟩|(simp [go_sem,aM,bg,aU,bq])) (first
  |(go_at_call 140;refine (HN.o _ (by exact x0.drew)).mono ?_;rintro e w1 ⟨a1,c1,rfl,hr1,jI,hx1⟩;obtain ⟨aM,bg,bL,bM⟩:=aH A0 ((ar.drew).trans hx1);have z0:=(A0.ext ((ar.drew).trans hx1)).lt;obtain ⟨aU,bq,cA,cC⟩:=aH A1 ((ar.drew).trans hx1);have z1:=(A1.ext ((ar.drew).trans hx1)).lt;obtain ⟨bK,cD,cT,cU⟩:=aH A2 ((ar.drew).trans hx1);have z2:=(A2.ext ((ar.drew).trans hx1)).lt)
  |(go_at_call 155;refine (HA.o _ _ _ (x0.drew.trans hx1) hr1).mono ?_;rintro e w2 ⟨a2,c2,rfl,hr2,hf2,hx2⟩;obtain ⟨aM,bg,bL,bM⟩:=aH A0 (((ar.drew).trans hx1).trans hx2);have z0:=(A0.ext (((ar.drew).trans hx1).trans hx2)).lt;obtain ⟨aU,bq,cA,cC⟩:=aH A1 (((ar.drew).trans hx1).trans hx2);have z1:=(A1.ext (((ar.drew).trans hx1).trans hx2)).lt;obtain ⟨bK,cD,cT,cU⟩:=aH A2 (((ar.drew).trans hx1).trans hx2);have z2:=(A2.ext (((ar.drew).trans hx1).trans hx2)).lt))
 have fin:bB zr W.drew _ w2:=⟨a2,c2,rfl,hr2,hf2.mono hx1.size,hx1.trans hx2⟩;go_wp2
 exact bodyPost_ret (by simp [results,results165,go_sem,bK,cD]) rfl (bB.bt fin x0.drew (Touch.two _ ae (by rw [World.drew,Z0.o];omega) _ _))
