/- Texts of the proof. -/
import Derived.Laws.AppendOwnNone
import Derived.ProofKit
import Derived.OpenShut
import Derived.ShutString
import Derived.ChangeOld
import Derived.Below
import Derived.Deep.RegionHeld
import Derived.Deep.Slices
import Derived.Maps.RangeWalk
import Derived.Maps.OwnSet
import Derived.Maps.OwnOps
import Derived.Maps.Views
import Derived.Lib.MinMax
import Derived.Test.YtfokdakioeoniaaGreatCj1
set_option linter.all false
namespace Go.Proofs.YtfokdakioeoniaaGreat
open Go.Proofs.Tryz
open Go.RowKit
section
variable{P:Program} (w:World)
theorem zf (base:Nat) (t ty e:TypeId) (i:TypeInfo) (z:Value) (size bytes:Nat) (ht:P.underlying t=some (.slice e)) (hi:P.info? e=some i) (hz:i.zero=some z)
 (hsize:i.size=size) (hby:i.bytes=bytes) (hzs:z.cells.size=size) (hsz:0<size)
 (v:Value) (n:Nat) (xs:List Value) (hown:w.ownsRow base e size v n xs)
 (a:Addr) (m c:Nat) (news:List Value) (hl:news.length=m*size) (hnews: ∀j u,news[j]?=some u->w.cell? (a.add j)=some u) (h1: ∀u∈news,u.oneCell'=true)
 (h63:n+m<=maxLen) (hbytes:(n+m)*bytes<=140737488355328) (hbase:base<=w.heap.size):
 ∃v' w',(Builtin.append_ #[t,t] ty #[v,.slice (some a) m c]).run P w= .ok v' w'/\w'.ownsRow base e size v' (n+m) (xs++news)/\w.grownBy w' v.ownBlock/\w.drawn<=w'.drawn:=by
 obtain ⟨v',w',hr,h2,h3,_⟩:=run_append_own (P:=P) w base t ty e i z size bytes ht hi hz hsize hby hzs hsz v n xs hown a m c news hl hnews h1 h63 hbytes hbase;refine ⟨v',w',hr,h2,h3,?_⟩;subst hsize;subst hby;have TP:n+m<=9223372036854775807:=by simp only [maxLen]at h63;omega
 rcases hown.2 with⟨rfl,rfl⟩|⟨g,cap,cur,rfl,hbg,hg,hnc,hcm,hcs,zg⟩
 .have hx:xs= []:=List.eq_nil_of_length_eq_zero (by simpa using hown.1)
  subst hx;by_cases hm:m=0
  .subst hm
   have hn:news= []:=List.eq_nil_of_length_eq_zero (by simpa using hl);subst hn
   have oB:(Builtin.append_ #[t,t] ty #[.slice none 0 0,.slice (some a) 0 c]).run P w= .ok (.slice none 0 0) w:=by
    simp [Builtin.append_,run_underlying ht,sizeOf,typeInfo,hi,Builtin.lenOf,Builtin.firstCells,loadCells,loadCellsFrom]
   rw [oB]at hr;cases hr;exact cG
  .have oB:=run_append_nil (P:=P) w t ty e i z ht hi hz a m c news hl hnews ae ae (by have hb:=hbytes;simp only [Nat.zero_add]at hb;omega)
   rw [oB]at hr;cases hr;exact Nat.le_succ _
 .by_cases hroom:n+m<=cap
  .have NH:n*i.size+news.length<=cur.size:=by rw [hl,hcs,<-Nat.add_mul];exact Nat.mul_le_mul_right _ hroom
   have oB:=run_append_room (P:=P) w t ty e i ht hi g n cap cur hg a m c news hl hnews h1 hroom NH;rw [oB]at hr;cases hr;exact cG
  .have holds: ∀j u,xs[j]?=some u->w.cell? ((⟨g,0,none⟩:Addr).add j)=some u:=hown.cells (g:=g) rfl
   have oB:=run_append_grow (P:=P) w t ty e i z ht hi hz ⟨g,0,none⟩ n cap xs hown.1 holds a m c news hl hnews ae ae (growslice_fits ae hbytes);rw [oB]at hr;cases hr;exact Nat.le_succ _
theorem kC {ops:Array Oper} {rest:List Oper} {o:Oper} {a:Act} {Q:Exit->Act->World->Prop} (hgd:o.guard=none) (s x:Operand) (t:TypeId)
 (ho:o.op= .call {callee:= .builtin .append,args:= #[s,x],argTypes:= #[t,t]})
 (base:Nat) (e:TypeId) (z:Value) (size bytes:Nat) (ht:P.underlying t=some (.slice e)) (kD:(P.info? e).map (λi=>(i.zero,i.size,i.bytes))=some (some z,size,bytes)) (hzs:z.cells.size=size) (hsz:0<size)
 (v:Value) (n:Nat) (xs:List Value) (hs:a.eval s=v) (hown:w.ownsRow base e size v n xs)
 (xa:Option Addr) (m c:Nat) (news:List Value) (hx:a.eval x= .slice xa m c) (hl:news.length=m*size) (hnews:0<m-> ∃ad,xa=some ad/\ ∀j u,news[j]?=some u->w.cell? (ad.add j)=some u) (h1: ∀u∈news,u.oneCell'=true)
 (hnil:xa=none->m=0/\c=0)
 (h63:n+m<=1200000000000) (hbytes:bytes<=100) (hbase:base<=w.heap.size)
 (h: ∀v' w',Hid (w'.ownsRow base e size v' (n+m) (xs++news))->Hid (∀a0,Ext a0 w->a0.heap.size<=base->Ext a0 w')->Hid (∀k,k<w.heap.size->some k≠v.ownBlock->w'.heap[k]?=w.heap[k]?)->Hid (w.heap.size<=w'.heap.size)->wpList P ops Q rest (a.put o.dst v') w'):wpList P ops Q (o::rest) a w:=by
 obtain ⟨i,hi,hz,hsize,hby⟩:=info_parts kD;have hlt:=hown.lt;have hb:(n+m)*bytes<=140737488355328:=Nat.le_trans (Nat.mul_le_mul h63 hbytes) ai;have ER:n+m<=maxLen:=by unfold maxLen;omega
 cases xa with
 |none=>
  obtain ⟨rfl,rfl⟩:=hnil rfl;have hn:news= []:=List.eq_nil_of_length_eq_zero (by simpa using hl);subst hn;refine wpList_append_own_none hgd s x t ho base e i size ht hi v n xs hs hown hx ?_;exact h v w (af (by simpa using hown)) (λ_ h _=>h) (λ_ _ _=>rfl) cG
 |some ad=>
  have tQ: ∀j u,news[j]?=some u->w.cell? (ad.add j)=some u:=by
   intro j u hu;by_cases hm:0<m
   .obtain ⟨ad',e',hh⟩:=hnews hm;cases e';exact hh j u hu
   .have:news= []:=List.eq_nil_of_length_eq_zero (by rw [hl];have:m=0:=ae
                                                     simp [this])
    rw [this]at hu;simp at hu
  refine wpList_plain hgd λK hK=> ?_;obtain ⟨v',w',hr,h2,h3,h4⟩:=zf (P:=P) w base t o.type e i z size bytes ht hi hz hsize hby hzs hsz v n xs hown ad m c news hl tQ h1 ER hb hbase;unfold Oper.wp execOp;simp only [ho,resolve,invoke,builtin,Sem.run_bind,Sem.run_pure,Result.andThen_ok,List.map_toArray,List.map_cons,List.map_nil,hs,hx,hr];refine hK _ _ (h v' w' h2 (λa0 ha hb0=>⟨ha.below.trans ⟨h3.os,h3.tape,h3.output,h3.size,λk hk=>h3.block k (dB ha.size) (λe'=>dB (hlt k e'.symm))⟩,Nat.le_trans ha.drawn h4⟩) h3.block h3.size)
end
theorem Bb {w:World} {base:Nat} {e:TypeId} {v:Value} {n:Nat} {l:List Nat} (h:w.ownsRow base e 1 v n (dC l)) (hs:Small l) (hc:l.length<=1099511627776):
 ∃a c,v= .slice a n c/\l.length=n/\fN w a c l/\Fr base a:=by
 obtain ⟨h1,h2⟩:=h;rw [jt,Nat.mul_one]at h1;rcases h2 with⟨rfl,rfl⟩|⟨g,cap,cur,rfl,hb,hg,hn,eI,hcs,zg⟩
 .have:l= []:=List.eq_nil_of_length_eq_zero h1
  subst this;exact ⟨none,0,rfl,rfl,fN.nil _,Fr.none _⟩
 .refine ⟨some ⟨g,0,none⟩,cap,rfl,h1,⟨ae,by unfold maxLen at eI;omega,hc,(λe=>by cases e),hs,λi hi=>⟨g,0,rfl,?_⟩⟩,Fr.some hb⟩
  rw [Nat.zero_add]
  have:cur.toList[i]?=some (.int .u32 (limb l i:Nat)):=by
   have h3:(cur.toList.take (n*1))[i]?=(dC l)[i]?:=by rw [zg]
   rw [fu _ _ hi,List.getElem?_take,if_pos ae]at h3;exact h3
  simp only [World.cell?,hg];simpa using this
theorem oC (w:World) (base:Nat) (e:TypeId) (g:Nat) (hb:base<=g) (hg:aY w g e []):w.ownsRow base e 1 (.slice (some ⟨g,0,none⟩) 0 0) 0 []:=
 ⟨rfl,.inr ⟨g,0,#[],rfl,hb,hg,cG,bm,rfl,rfl⟩⟩
theorem bP.base {z:Int} {W w1 w2:World} {e:Ending} (h:bP z w1 e w2) (hx:Ext W w1):bP z W e w2:=by
 obtain ⟨a,c,he,hr,hf,xR⟩:=h;exact ⟨a,c,he,hr,hf.mono hx.size,hx.trans xR⟩
def dG (s:Bool) (n m:Nat) (w:World) (e:Ending) (w':World):Prop:= ∃a c a' c',e= .returned (.agg #[.bool s,.slice a (len n) c,.slice a' (len m) c'])/\Raw w' a (len n) c n/\Fr w.heap.size a/\Raw w' a' (len m) c' m/\Fr w.heap.size a'/\Ext w w'
def eJ (s:Bool) (n:Nat) (w:World) (e:Ending) (w':World):Prop:= ∃a c,e= .returned (.agg #[.bool s,.slice a (len n) c])/\Raw w' a (len n) c n/\Fr w.heap.size a/\Ext w w'
theorem bP.intOf {z:Int} {w w':World} {e:Ending} (h:bP z w e w'):eJ (decide (z<0)) z.natAbs w e w':=h
theorem dG.base {s:Bool} {n m:Nat} {W w1 w2:World} {e:Ending} (h:dG s n m w1 e w2) (hx:Ext W w1):dG s n m W e w2:=by
 obtain ⟨a,c,a',c',he,hr,hf,oB,hf',xR⟩:=h;exact ⟨a,c,a',c',he,hr,hf.mono hx.size,oB,hf'.mono hx.size,hx.trans xR⟩
def yD (s:Bool) (n m:Nat) (w:World) (e:Ending) (w':World):Prop:= ∃a c a' c',e= .returned (.tuple #[.agg #[.bool s,.slice a (len n) c,.slice a' (len m) c'],.bool true])/\Raw w' a (len n) c n/\Fr w.heap.size a/\Raw w' a' (len m) c' m/\Fr w.heap.size a'/\Ext w w'
theorem dG.ok {s:Bool} {n m:Nat} {w w':World} {a a':Option Addr} {c c':Nat} (h:dG s n m w (.returned (.agg #[.bool s,.slice a (len n) c,.slice a' (len m) c'])) w'):yD s n m w (.returned (.tuple #[.agg #[.bool s,.slice a (len n) c,.slice a' (len m) c'],.bool true])) w':=by
 obtain ⟨a1,c1,a2,c2,he,hr,hf,oB,hf',hx⟩:=h;cases he
 exact ⟨_,_,_,_,rfl,hr,hf,oB,hf',hx⟩
theorem dG.bH {s:Bool} {n m:Nat} {w W w2 w3:World} {e:Ending} (h:dG s n m W e w2) (hW:Ext w W) (t:Touch w.heap.size W.heap.size w2 w3):dG s n m w e w3:=by
 obtain ⟨a,c,a',c',he,hr,hf,oB,hf',hx⟩:=h;exact ⟨a,c,a',c',he,hr.bH t hf.o,hf.mono hW.size,oB.bH t hf'.o,hf'.mono hW.size,hW.bH hx t⟩
theorem eJ.bH {s:Bool} {n:Nat} {w W w2 w3:World} {e:Ending} (h:eJ s n W e w2) (hW:Ext w W) (t:Touch w.heap.size W.heap.size w2 w3):eJ s n w e w3:=by
 obtain ⟨a,c,he,hr,hf,hx⟩:=h;exact ⟨a,c,he,hr.bH t hf.o,hf.mono hW.size,hW.bH hx t⟩
theorem eJ.base {s:Bool} {n:Nat} {W w1 w2:World} {e:Ending} (h:eJ s n w1 e w2) (hx:Ext W w1):eJ s n W e w2:=by
 obtain ⟨a,c,he,hr,hf,xR⟩:=h;exact ⟨a,c,he,hr,hf.mono hx.size,hx.trans xR⟩
def oD (w:World) (a:Option Addr) (l:List Int):Prop:= ∃b o,a=some ⟨b,o,none⟩/\ ∀i (hi:i<l.length),w.cell? ⟨b,o+i,none⟩=some (.int .i64 l[i])
theorem oD.ext {w w':World} {a:Option Addr} {l:List Int} (h:oD w a l) (hX:Ext w w'):oD w' a l:=by
 obtain ⟨b,o,rfl,hc⟩:=h;exact ⟨b,o,rfl,λi hi=>(hX.cell (eH (hc i hi))).trans (hc i hi)⟩
section
variable{P:Program} (w:World)
theorem oF (base:Nat) (t ty e:TypeId) (i:TypeInfo) (z:Value) (size bytes:Nat) (ht:P.underlying t=some (.slice e)) (hi:P.info? e=some i) (hz:i.zero=some z)
 (hsize:i.size=size) (hby:i.bytes=bytes) (hzs:z.cells.size=size) (hsz:0<size)
 (v:Value) (n:Nat) (xs:List Value) (hown:w.ownsRow base e size v n xs)
 (a:Addr) (m c:Nat) (news:List Value) (hl:news.length=m*size) (hnews: ∀j u,news[j]?=some u->w.cell? (a.add j)=some u) (h1: ∀u∈news,u.oneCell'=true)
 (h63:n+m<=maxLen) (hbytes:(n+m)*bytes<=140737488355328) (hbase:base<=w.heap.size):
 ∃v' w',(Builtin.append_ #[t,t] ty #[v,.slice (some a) m c]).run P w= .ok v' w'/\w'.ownsRow base e size v' (n+m) (xs++news)/\w.grownBy w' v.ownBlock/\w.drawn<=w'.drawn/\(v'.ownBlock=v.ownBlock\/ ∃g,v'.ownBlock=some g/\w.heap.size<=g):=by
 obtain ⟨v',w',hr,h2,h3,_⟩:=run_append_own (P:=P) w base t ty e i z size bytes ht hi hz hsize hby hzs hsz v n xs hown a m c news hl hnews h1 h63 hbytes hbase;refine ⟨v',w',hr,h2,h3,?_⟩;subst hsize;subst hby;have TP:n+m<=9223372036854775807:=by simp only [maxLen]at h63;omega
 rcases hown.2 with⟨rfl,rfl⟩|⟨g,cap,cur,rfl,hbg,hg,hnc,hcm,hcs,zg⟩
 .have hx:xs= []:=List.eq_nil_of_length_eq_zero (by simpa using hown.1)
  subst hx;by_cases hm:m=0
  .subst hm
   have hn:news= []:=List.eq_nil_of_length_eq_zero (by simpa using hl);subst hn
   have oB:(Builtin.append_ #[t,t] ty #[.slice none 0 0,.slice (some a) 0 c]).run P w= .ok (.slice none 0 0) w:=by
    simp [Builtin.append_,run_underlying ht,sizeOf,typeInfo,hi,Builtin.lenOf,Builtin.firstCells,loadCells,loadCellsFrom]
   rw [oB]at hr;cases hr;exact ⟨cG,.inl rfl⟩
  .have oB:=run_append_nil (P:=P) w t ty e i z ht hi hz a m c news hl hnews ae ae (by have hb:=hbytes;simp only [Nat.zero_add]at hb;omega)
   rw [oB]at hr;cases hr;exact ⟨Nat.le_succ _,.inr ⟨_,rfl,cG⟩⟩
 .by_cases hroom:n+m<=cap
  .have NH:n*i.size+news.length<=cur.size:=by rw [hl,hcs,<-Nat.add_mul];exact Nat.mul_le_mul_right _ hroom
   have oB:=run_append_room (P:=P) w t ty e i ht hi g n cap cur hg a m c news hl hnews h1 hroom NH;rw [oB]at hr;cases hr;exact ⟨cG,.inl rfl⟩
  .have holds: ∀j u,xs[j]?=some u->w.cell? ((⟨g,0,none⟩:Addr).add j)=some u:=hown.cells (g:=g) rfl
   have oB:=run_append_grow (P:=P) w t ty e i z ht hi hz ⟨g,0,none⟩ n cap xs hown.1 holds a m c news hl hnews ae ae (growslice_fits ae hbytes);rw [oB]at hr;cases hr;exact ⟨Nat.le_succ _,.inr ⟨_,rfl,cG⟩⟩
theorem fC {ops:Array Oper} {rest:List Oper} {o:Oper} {a:Act} {Q:Exit->Act->World->Prop} (hgd:o.guard=none) (s x:Operand) (t:TypeId)
 (ho:o.op= .call {callee:= .builtin .append,args:= #[s,x],argTypes:= #[t,t]})
 (base:Nat) (e:TypeId) (z:Value) (size bytes:Nat) (ht:P.underlying t=some (.slice e)) (kD:(P.info? e).map (λi=>(i.zero,i.size,i.bytes))=some (some z,size,bytes)) (hzs:z.cells.size=size) (hsz:0<size)
 (v:Value) (n:Nat) (xs:List Value) (hs:a.eval s=v) (hown:w.ownsRow base e size v n xs)
 (xa:Option Addr) (m c:Nat) (news:List Value) (hx:a.eval x= .slice xa m c) (hl:news.length=m*size) (hnews:0<m-> ∃ad,xa=some ad/\ ∀j u,news[j]?=some u->w.cell? (ad.add j)=some u) (h1: ∀u∈news,u.oneCell'=true)
 (hnil:xa=none->m=0/\c=0)
 (h63:n+m<=1200000000000) (hbytes:bytes<=100) (hbase:base<=w.heap.size)
 (h: ∀v' w',Hid (w'.ownsRow base e size v' (n+m) (xs++news))->Hid (∀a0,Ext a0 w->a0.heap.size<=base->Ext a0 w')->Hid (∀k,k<w.heap.size->some k≠v.ownBlock->w'.heap[k]?=w.heap[k]?)->Hid (w.heap.size<=w'.heap.size)->Hid (v'.ownBlock=v.ownBlock\/ ∃g,v'.ownBlock=some g/\w.heap.size<=g)->wpList P ops Q rest (a.put o.dst v') w'):wpList P ops Q (o::rest) a w:=by
 obtain ⟨i,hi,hz,hsize,hby⟩:=info_parts kD;have hlt:=hown.lt;have hb:(n+m)*bytes<=140737488355328:=Nat.le_trans (Nat.mul_le_mul h63 hbytes) ai;have ER:n+m<=maxLen:=by unfold maxLen;omega
 cases xa with
 |none=>
  obtain ⟨rfl,rfl⟩:=hnil rfl;have hn:news= []:=List.eq_nil_of_length_eq_zero (by simpa using hl);subst hn;refine wpList_append_own_none hgd s x t ho base e i size ht hi v n xs hs hown hx ?_;exact h v w (af (by simpa using hown)) (λ_ h _=>h) (λ_ _ _=>rfl) cG (.inl rfl)
 |some ad=>
  have tQ: ∀j u,news[j]?=some u->w.cell? (ad.add j)=some u:=by
   intro j u hu;by_cases hm:0<m
   .obtain ⟨ad',e',hh⟩:=hnews hm;cases e';exact hh j u hu
   .have:news= []:=List.eq_nil_of_length_eq_zero (by rw [hl];have:m=0:=ae
                                                     simp [this])
    rw [this]at hu;simp at hu
  refine wpList_plain hgd λK hK=> ?_;obtain ⟨v',w',hr,h2,h3,h4,h5⟩:=oF (P:=P) w base t o.type e i z size bytes ht hi hz hsize hby hzs hsz v n xs hown ad m c news hl tQ h1 ER hb hbase;unfold Oper.wp execOp;simp only [ho,resolve,invoke,builtin,Sem.run_bind,Sem.run_pure,Result.andThen_ok,List.map_toArray,List.map_cons,List.map_nil,hs,hx,hr];refine hK _ _ (h v' w' h2 (λa0 ha hb0=>⟨ha.below.trans ⟨h3.os,h3.tape,h3.output,h3.size,λk hk=>h3.block k (dB ha.size) (λe'=>dB (hlt k e'.symm))⟩,Nat.le_trans ha.drawn h4⟩) h3.block h3.size h5)
end
structure bV (w:World) (a:Option Addr) (c:Nat) (xs:List Int):Prop where
 le:xs.length<=c
 cap:c<=9223372036854775807
 cell: ∀i (h:i<xs.length),∃b o,a=some ⟨b,o,none⟩/\w.cell? ⟨b,o+i,none⟩=some (.int .i64 xs[i])
 Zz: ∀i (h:i<xs.length),-9223372036854775808<=xs[i]/\xs[i]<9223372036854775808
theorem bV.ext {w w':World} {a:Option Addr} {c:Nat} {xs:List Int} (h:bV w a c xs) (e:Ext w w'):bV w' a c xs:=
 ⟨h.le,h.cap,λi hi=>by obtain ⟨b,o,ha,hc⟩:=h.cell i hi;exact ⟨b,o,ha,aB e hc⟩,h.Zz⟩
theorem fg {w w':World} {base:Nat} {e:TypeId} {s:Nat} {v:Value} {n:Nat} {xs:List Value} (h:w.ownsRow base e s v n xs) (hX:Ext w w'):w'.ownsRow base e s v n xs:=by
 obtain ⟨h1,h2⟩:=h;refine ⟨h1,?_⟩;rcases h2 with h2|⟨g,cap,cur,hv,hb,hg,hr⟩
 .exact .inl h2
 .refine .inr ⟨g,cap,cur,hv,hb,?_,hr⟩
  rw [hX.below.block g (Array.getElem?_eq_some_iff.1 hg).1];exact hg
theorem Raw.lt {w:World} {a:Option Addr} {k c n:Nat} (h:Raw w a k c n) (hk:0<k): ∀x,a=some x->x.block<w.heap.size:=by
 intro x hx;obtain ⟨l,e1,e2,e3⟩:=h;obtain ⟨b',o,ha,hc⟩:=e3.cell 0 ae;have:=eH hc;rw [hx]at ha;cases ha
 exact this
theorem bV.at {w:World} {a:Option Addr} {c:Nat} {xs:List Int} (h:bV w a c xs) (h0:0<xs.length): ∃b o,a=some ⟨b,o,none⟩:=by
 obtain ⟨b,o,ha,_⟩:=h.cell 0 h0;exact ⟨b,o,ha⟩
theorem kY (w:World) (T:TypeId) (vs:List Value): ∀j u,vs[j]?=some u->(w.alloc (.cells vs.toArray T)).cell? (Addr.add ⟨w.heap.size,0,none⟩ j)=some u:=by
 intro j u hu;rw [show(Addr.add ⟨w.heap.size,0,none⟩ j)=⟨w.heap.size,0+j,none⟩from by unfold Addr.add;split<;>simp_all,Nat.zero_add,(aY.alloc w T vs).cell];exact hu
def jh (rs:List bE) (L:Nat):Prop:= ∀k (hk:k<rs.length),rs[k].k<=L/\rs[k].j<=L
theorem jh.nil (L:Nat):jh [] L:=λ_ hk=>absurd hk (Nat.not_lt_zero _)
theorem dO.short {w:World} {r:bE} {q:Rat} {B L:Nat} (h:dO w r q B) (hl:dW q<=L):r.k<=L/\r.j<=L:=by
 have h1:=iN q;have h2:=iw q;rw [h.k,h.j];omega
open Go
section
variable{P:Program} {ops:Array Oper} {Q:Exit->Act->World->Prop} {md:Region.Mode} {S:World->Prop} {Z:Nat->Bool}
def Ib (md:Region.Mode) (ops:Array Oper) (Z:Nat->Bool) (i:Nat):Bool:=
 (List.range ops.size).all λj=> !Z j||(match ops[j]? with|some o=>o.after.toList.any (λe=>Region.binds md e&&e.on==i)|none=>true)
theorem ES {i:Nat} (h:Ib md ops Z i=true): ∀j oj,ops[j]?=some oj->Z j=true-> ∃e∈oj.after,Region.binds md e=true/\e.on=i:=by
 intro j oj hj hz;have hl:j<ops.size:=(Array.getElem?_eq_some_iff.1 hj).1;have h1:=List.all_eq_true.1 h j (List.mem_range.2 hl);rw [hz,hj]at h1;simp only [Bool.not_true,Bool.false_or]at h1;obtain ⟨e,he,h2⟩:=List.any_eq_true.1 h1;simp only [Bool.and_eq_true,beq_iff_eq]at h2;exact ⟨e,Array.mem_toList_iff.1 he,h2.1,h2.2⟩
theorem _root_.Go.Shut.o {p:Prop} (h:Go.Shut p):p:=h
end
open Go.Maps Go.ChangeMaps Go.MapKept
def dx (k:Int):Prop:= -9223372036854775808<=k/\k<9223372036854775808
theorem dx.wf {k:Int} (h:dx k):(Lit.int .i64 k).wf=true:=by
 obtain ⟨h1,h2⟩:=h;simp [Lit.wf,IntKind.min,IntKind.max,IntKind.signed,IntKind.bits];omega
def uz (w:World) (b n:Nat) (K:Int->Prop) (f:Int->Int):Prop:=
 ∃D:DataW Unit,w.ownsMap prog 3 (plainElem prog 3) b n D/\(∀k,(Maps.has D (.int .i64 k)=true↔K k))/\ ∀k,D.atKey (.int .i64 k) (.lit (.int .i64 0))= .lit (.int .i64 (f k))
theorem uz.lt {w:World} {b n:Nat} {K:Int->Prop} {f:Int->Int} (h:uz w b n K f):b<w.heap.size:=by obtain ⟨D,h1,_⟩:=h;exact h1.lt
theorem uz.same {w w':World} {b n:Nat} {K:Int->Prop} {f:Int->Int} (h:uz w b n K f) (e:w'.heap[b]?=w.heap[b]?):uz w' b n K f:=by
 obtain ⟨D,⟨es,clock,hb,r⟩,h2⟩:=h;exact ⟨D,⟨es,clock,by rw [e];exact hb,r⟩,h2⟩
theorem uz.ext {w w':World} {b n:Nat} {K:Int->Prop} {f:Int->Int} (h:uz w b n K f) (e:Ext w w'):uz w' b n K f:=h.same (e.below.block b h.lt)
theorem uz.setCell {w:World} {b n:Nat} {K:Int->Prop} {f:Int->Int} (h:uz w b n K f) (p:Addr) (v:Value) (hp:b≠p.block):uz (w.setCell p v) b n K f:=h.same (Below.heap_setCell _ _ _ _ ae)
def ni (w w':World):Prop:= ∀p v,w.cell? p=some v->w'.cell? p=some v
theorem ni.refl (w:World):ni w w:=λ_ _ h=>h
theorem ni.trans {a b c:World} (h:ni a b) (k:ni b c):ni a c:=λp v e=>k p v (h p v e)
theorem Ext.keeps {w w':World} (h:Ext w w'):ni w w':=λ_ _ e=>aB h e
theorem uz.QF {w:World} {b n:Nat} {K:Int->Prop} {f:Int->Int} (h:uz w b n K f) {p:Addr} {v:Value} (e:w.cell? p=some v):p.block≠b:=by
 obtain ⟨D,⟨es,clock,hb,_⟩,_⟩:=h;intro hp;unfold World.cell? at e;rw [hp,hb]at e;simp at e
theorem fN.keeps {w w':World} {a:Option Addr} {c:Nat} {l:List Nat} (h:fN w a c l) (k:ni w w'):fN w' a c l:=
 ⟨h.le,h.cap,h.short,h.Ni,h.small,λi hi=>by obtain ⟨b,o,ha,hc⟩:=h.cell i hi;exact ⟨b,o,ha,k _ _ hc⟩⟩
theorem Raw.keeps {w w':World} {a:Option Addr} {k c n:Nat} (h:Raw w a k c n) (e:ni w w'):Raw w' a k c n:=by
 obtain ⟨l,h1,h2,h3⟩:=h;exact ⟨l,h1,h2,h3.keeps e⟩
theorem fI.keeps {w w':World} {r:bE} {q:Rat} {L:Nat} (h:fI w r q L) (e:ni w w'):fI w' r q L:=by
 obtain ⟨n,m,h1,h2,h3⟩:=h;exact ⟨n,m,h1.keeps e,h2.keeps e,h3⟩
theorem dO.keeps {w w':World} {r:bE} {q:Rat} {B:Nat} (h:dO w r q B) (e:ni w w'):dO w' r q B:=⟨h.s,h.k,h.j,h.num.keeps e,h.den.keeps e,h.fa,h.fb⟩
theorem jV.keeps {w w':World} {a:Option Addr} {c:Nat} {rs:List bE} {qs:List Rat} {L:Nat} (h:jV w a c rs qs L) (e:ni w w'):jV w' a c rs qs L:=
 ⟨h.len,h.le,h.cap,h.short,λi hi=>by obtain ⟨b,o,ha,c0,c1,c2⟩:=h.cell i hi;exact ⟨b,o,ha,e _ _ c0,e _ _ c1,e _ _ c2⟩,λi hi=>(h.num i hi).keeps e⟩
theorem bV.keeps {w w':World} {a:Option Addr} {c:Nat} {xs:List Int} (h:bV w a c xs) (e:ni w w'):bV w' a c xs:=
 ⟨h.le,h.cap,λi hi=>by obtain ⟨b,o,ha,hc⟩:=h.cell i hi;exact ⟨b,o,ha,e _ _ hc⟩,h.Zz⟩
structure aH (b:Nat) (w w':World):Prop where
 os:w'.os=w.os
 tape:w'.tape=w.tape
 output:w'.output=w.output
 drawn:w.drawn<=w'.drawn
 size:w.heap.size<=w'.heap.size
 block: ∀k,k<w.heap.size->k≠b->w'.heap[k]?=w.heap[k]?
theorem aH.refl (b:Nat) (w:World):aH b w w:=⟨rfl,rfl,rfl,cG,cG,λ_ _ _=>rfl⟩
theorem Ext.but {w w':World} (h:Ext w w') (b:Nat):aH b w w':=⟨h.below.os,h.below.tape,h.below.output,h.drawn,h.size,λk hk _=>h.below.block k hk⟩
theorem aH.trans {b:Nat} {w w1 w2:World} (h:aH b w w1) (k:aH b w1 w2):aH b w w2:=
 ⟨k.os.trans h.os,k.tape.trans h.tape,k.output.trans h.output,Nat.le_trans h.drawn k.drawn,Nat.le_trans h.size k.size,λx hx hb=>by rw [k.block x (Nat.lt_of_lt_of_le hx h.size) hb];exact h.block x hx hb⟩
theorem aH.ext {b:Nat} {w0 w w':World} (k:aH b w w') (h:Ext w0 w) (hb:w0.heap.size<=b):Ext w0 w':=
 ⟨⟨k.os.trans h.below.os,k.tape.trans h.below.tape,k.output.trans h.below.output,Nat.le_trans h.size k.size,λx hx=>by rw [k.block x (Nat.lt_of_lt_of_le hx h.size) ae];exact h.below.block x hx⟩,Nat.le_trans h.drawn k.drawn⟩
theorem aH.setCell {b:Nat} {w w':World} (h:aH b w w') {p:Addr} (hp:w.heap.size<=p.block) (v:Value):aH b w (w'.setCell p v):=
 ⟨h.os,h.tape,h.output,h.drawn,by simpa [World.setCell]using h.size,λk hk hb=>by rw [Below.heap_setCell _ _ _ _ ae];exact h.block k hk hb⟩
theorem aH.keeps {b n:Nat} {w w':World} {K:Int->Prop} {f:Int->Int} (h:aH b w w') (hm:uz w b n K f):ni w w':=by
 intro p v e;have h1:=hm.QF e;have h2:=eH e;unfold World.cell? at*;rw [h.block _ h2 h1];exact e
def kE (l:List Int) (i:Nat):Int:=l[i]?.getD 0
theorem gh {l:List Int} {i:Nat} (h:i<l.length):kE l i=l[i]:=by unfold kE;rw [List.getElem?_eq_getElem h];rfl
def Lm (Z:Nat->Bool) (ls:Array Bool):Prop:= ∀j,Z j=true->ls.getD j false=false
def wW (Z:Nat->Bool) (ls:Array Bool):Bool:=(List.range ls.size).any λj=>Z j&&ls.getD j false
theorem JU {Z:Nat->Bool} {ls:Array Bool} {j:Nat} (h:Lm Z (ls.setIfInBounds j true)):Lm Z ls:=by
 intro k hk;have h1:=h k hk;by_cases hjk:j=k
 .subst hjk
  by_cases hl:j<ls.size
  .simp [Array.getD,hl]at h1
  .simp [Array.getD,hl]
 .rw [getD_set_ne false hjk]at h1;exact h1
theorem ET {Z:Nat->Bool} {ls:Array Bool} {j:Nat} (h:Lm Z ls) (hj:Z j=false):Lm Z (ls.setIfInBounds j true):=by
 intro k hk;by_cases hjk:j=k
 .subst hjk;rw [hk]at hj;cases hj
 .rw [getD_set_ne false hjk];exact h k hk
theorem JV {Z:Nat->Bool} {ls:Array Bool} (h:wW Z ls=true): ¬Lm Z ls:=by
 intro hn;obtain ⟨j,_,h2⟩:=List.any_eq_true.1 h;rw [Bool.and_eq_true]at h2;rw [hn j h2.1]at h2;exact absurd h2.2 ai
section
variable{P:Program} {ops:Array Oper} {Q:Exit->Act->World->Prop} {md:Region.Mode} {S R:World->Prop} {Z:Nat->Bool}
def ij (P:Program) (md:Region.Mode) (ops:Array Oper) (Q:Exit->Act->World->Prop) (S R:World->Prop) (Z:Nat->Bool):Nat->Array Bool->Act->World->Prop
 |0,ls,a,w=>Region.ready md ops ls= []/\Q .normal a w
 |n+1,ls,a,w=>(Region.ready md ops ls= []->Q .normal a w)/\
  ∀i∈Region.ready md ops ls,wpOp P ops Q i (λa' w'=>S w'/\(Lm Z (ls.setIfInBounds i true)->R w')/\ij P md ops Q S R Z n (ls.setIfInBounds i true) a' w') a w
theorem zh: ∀(n:Nat) (ls:Array Bool) (a:Act) (w:World),ij P md ops Q S R Z n ls a w->wpAny P md ops Q n ls a w
 |0,_,_,_,h=>h
 |n+1,_,_,_,h=>⟨h.1,λi hi=>wpOp_mono (λa' w' h'=>zh n _ a' w' h'.2.2) (h.2 i hi)⟩
theorem uA {T:World->Prop} {i:Nat} {oi:Oper} {v:Value} (hi:ops[i]?=some oi) (WK:Z i=false) (WL: ∀(j:Nat) (o:Oper) cs b,ops[j]?=some o->o.op≠ .select cs b)
 (hQ: ∀c a w,Q (.panic c) (a.put oi.dst v) w->Q (.panic c) a w)
 (hT:(∀w,S w->T w)\/((∀w,S w->R w->T w)/\ ∀j oj,ops[j]?=some oj->Z j=true-> ∃e∈oj.after,Region.binds md e=true/\e.on=i)):
 ∀(n:Nat) (ls:Array Bool) (a:Act) (w:World),
  (∀j oj,ops[j]?=some oj->j≠i->ls.getD j true=false->(∀e∈oj.after,Region.binds md e=true->e.on≠i)->oi.apart ops oj=true)->
  i∈Region.ready md ops ls->YieldsIf P ops T oi v a->S w->(Lm Z ls->R w)->((∀w,S w->T w)\/Lm Z ls)->
  ij P md ops Q S R Z n (ls.setIfInBounds i true) (a.put oi.dst v) w->ij P md ops Q S R Z (n+1) ls a w:=by
 have now: ∀(ls:Array Bool) (w:World),S w->(Lm Z ls->R w)->((∀w,S w->T w)\/Lm Z ls)->T w:=by
  intro ls w hS hR hn;rcases hn with h|h
  .exact h w hS
  .rcases hT with h'|h'
   .exact h' w hS
   .exact h'.1 w hS (hR h)
 intro n;induction n with
 |zero=>
  intro ls a w _ hr hy hS hR hn H;refine ⟨λh=>(by rw [h]at hr;cases hr),λj hj=> ?_⟩;by_cases qF:j=i
  .subst qF;exact hy.wpOp hi (now ls w hS hR hn) ⟨hS,λh=>hR (JU h),H⟩
  .have:=ready_mono hj qF
   rw [H.1]at this;cases this
 |succ n ih=>
  intro ls a w Sx hr hy hS hR hn H;refine ⟨λh=>(by rw [h]at hr;cases hr),λj hj=> ?_⟩;by_cases qF:j=i
  .subst qF;exact hy.wpOp hi (now ls w hS hR hn) ⟨hS,λh=>hR (JU h),H⟩
  .have h1:=H.2 j (ready_mono hj qF)
   obtain ⟨WM,oj,ZA,hall⟩:=mem_ready.1 hj
   have WN: ∀e∈oj.after,Region.binds md e=true->e.on≠i:=λe he hb heq=>by
    have h1:=hall e he hb;have h0:=(mem_ready.1 hr).1;rw [heq]at h1;rcases Nat.lt_or_ge i ls.size with h'|h'
    .simp [h']at h0 h1;rw [h0]at h1;cases h1
    .simp [Array.getElem?_eq_none h']at h1
   have yE:(∀w,S w->T w)\/Lm Z (ls.setIfInBounds j true):=by
    rcases hT with h'|h'
    .exact Or.inl h'
    .rcases hn with h''|h''
     .exact Or.inl h''
     .refine Or.inr (ET h'' ?_)
      cases hz:Z j with
      |false=>rfl
      |true=>
       obtain ⟨e,he,hb,heq⟩:=h'.2 j oj ZA hz;exact absurd heq (WN e he hb)
   have h2:=wpOp_putIf ZA (Sx j oj ZA qF WM WN) (λcs b=>WL i oi cs b hi) (λcs b=>WL j oj cs b ZA) hQ hy h1
   have TQ: ∀k ok,ops[k]?=some ok->k≠i->(ls.setIfInBounds j true).getD k true=false->
    (∀e∈ok.after,Region.binds md e=true->e.on≠i)->oi.apart ops ok=true:=λk ok hk TR TS hno=>by
    refine Sx k ok hk TR ?_ hno;by_cases hjk:j=k
    .subst hjk;exact WM
    .rw [getD_set_ne true hjk]at TS;exact TS
   have Sy: ∀l:Array Bool,(l.setIfInBounds i true).setIfInBounds j true=(l.setIfInBounds j true).setIfInBounds i true:=λl=>by rw [Array.setIfInBounds_comm _ _ qF]
   refine wpOp_mono (λa' w' h3=> ?_) h2;have h4:Lm Z (ls.setIfInBounds j true)->R w':=λhz=>h3.2.2.1 (by rw [Sy];exact ET hz WK);exact ⟨h3.2.1,h4,ih (ls.setIfInBounds j true) a' w' TQ (ready_mono hr (Ne.symm qF)) h3.1 h3.2.1 h4 yE (by rw [<-Sy];exact h3.2.2.2)⟩
theorem iJ {i:Nat} {oi:Oper} {v:Value} {n:Nat} {ls:Array Bool} {a:Act} {w:World} (hi:ops[i]?=some oi)
 (hs:Region.noSelect ops=true) (hf:Region.free md ops ls i=true) (hr:(Region.ready md ops ls).contains i=true) (WK:Z i=false)
 (hQ: ∀c a w,Q (.panic c) (a.put oi.dst v) w->Q (.panic c) a w) (hy:YieldsIf P ops S oi v a) (hS:S w) (hR:R w\/wW Z ls=true)
 (h:ij P md ops Q S R Z n (ls.setIfInBounds i true) (a.put oi.dst v) w):ij P md ops Q S R Z (n+1) ls a w:=
 uA (T:=S) hi WK (Region.noSelect_spec hs) hQ (Or.inl λ_ h=>h) n ls a w (Region.free_spec hi hf) (by simpa using hr) hy hS (λhn=>hR.elim id (λh=>absurd hn (JV h))) (Or.inl λ_ h=>h) h
theorem CU {i:Nat} {oi:Oper} {v:Value} {n:Nat} {ls:Array Bool} {a:Act} {w:World} (hi:ops[i]?=some oi)
 (hs:Region.noSelect ops=true) (hf:Region.free md ops ls i=true) (hr:(Region.ready md ops ls).contains i=true) (WK:Z i=false) (hz:Ib md ops Z i=true) (hl:wW Z ls=false)
 (hQ: ∀c a w,Q (.panic c) (a.put oi.dst v) w->Q (.panic c) a w) (hy:YieldsIf P ops (λw=>S w/\R w) oi v a) (hS:S w) (hR:R w)
 (h:ij P md ops Q S R Z n (ls.setIfInBounds i true) (a.put oi.dst v) w):ij P md ops Q S R Z (n+1) ls a w:=
 uA (T:=λw=>S w/\R w) hi WK (Region.noSelect_spec hs) hQ (Or.inr ⟨λ_ h1 h2=>⟨h1,h2⟩,ES hz⟩) n ls a w (Region.free_spec hi hf) (by simpa using hr) hy hS (λ_=>hR) (Or.inr λj hj=>by
  by_cases Qe:j<ls.size
  .have h1:=List.any_eq_false.1 hl j (List.mem_range.2 Qe)
   rw [hj,Bool.true_and]at h1;simpa using h1
  .simp [Array.getD,Qe]) h
def cZ (P:Program) (md:Region.Mode) (ops:Array Oper) (Q:Exit->Act->World->Prop) (S R:World->Prop) (Z:Nat->Bool) (n:Nat) (ls:Array Bool) (a:Act) (w:World) (rs:List Nat):Prop:=
 ∀i∈rs,wpOp P ops Q i (λa' w'=>S w'/\(Lm Z (ls.setIfInBounds i true)->R w')/\ij P md ops Q S R Z n (ls.setIfInBounds i true) a' w') a w
theorem cZ.nil {n:Nat} {ls:Array Bool} {a:Act} {w:World}:cZ P md ops Q S R Z n ls a w []:=λ_ h=>by cases h
theorem cZ.cons {n:Nat} {ls:Array Bool} {a:Act} {w:World} {i:Nat} {o:Oper} {rs:List Nat} (ho:ops[i]?=some o)
 (h: ∀K':Act->World->Prop,Shut (∀a w,S w->R w->(S w->R w->ij P md ops Q S R Z n (ls.setIfInBounds i true) a w)->K' a w)->if Region.wanted o (yielded ops a.tmps)=true then Oper.wp P o a w K' Q else K' (a.put o.dst undef) w)
 (hs:cZ P md ops Q S R Z n ls a w rs):cZ P md ops Q S R Z n ls a w (i::rs):=λj hj=>by
 rcases List.mem_cons.1 hj with rfl|hj
 .exact wpOp_step ho (λK' hK=>h K' (λa w hS hR hW=>hK a w ⟨hS,λ_=>hR,hW hS hR⟩))
 .exact hs j hj
theorem cZ.late {n:Nat} {ls:Array Bool} {a:Act} {w:World} {i:Nat} {o:Oper} {rs:List Nat} (ho:ops[i]?=some o) (hz:wW Z (ls.setIfInBounds i true)=true)
 (h: ∀K':Act->World->Prop,Shut (∀a w,S w->(S w->ij P md ops Q S R Z n (ls.setIfInBounds i true) a w)->K' a w)->if Region.wanted o (yielded ops a.tmps)=true then Oper.wp P o a w K' Q else K' (a.put o.dst undef) w)
 (hs:cZ P md ops Q S R Z n ls a w rs):cZ P md ops Q S R Z n ls a w (i::rs):=λj hj=>by
 rcases List.mem_cons.1 hj with rfl|hj
 .exact wpOp_step ho (λK' hK=>h K' (λa w hS hW=>hK a w ⟨hS,λe=>absurd e (JV hz),hW hS⟩))
 .exact hs j hj
theorem iO {rs:List Nat} {n:Nat} {ls:Array Bool} {a:Act} {w:World} (hr:Region.ready md ops ls=rs) (hne:rs≠ [])
 (h:cZ P md ops Q S R Z n ls a w rs):ij P md ops Q S R Z (n+1) ls a w:=⟨λh0=>absurd (hr▸h0) hne,hr▸h⟩
theorem eh {ls:Array Bool} {a:Act} {w:World} (hr:Region.ready md ops ls= []) (h:Q .normal a w): ∀n,ij P md ops Q S R Z n ls a w
 |0=>⟨hr,h⟩
 |_+1=>⟨λ_=>h,by rw [hr];simp⟩
theorem eo {id:Nat} {a:Act} {w:World} (S R:World->Prop) (Z:Nat->Bool) (hm:P.follows .mixedOrders=true) (hS:S w.drew) (hR:R w.drew)
 (h:S w.drew->R w.drew->ij P .any ops Q S R Z ops.size (Array.replicate ops.size false) a w.drew):(Code.region id ops true).wp P Q a w:=
 wp_region_any hm (zh _ _ _ _ (h hS hR))
end
theorem sqA {α:Type} (l:List α) (i:Nat) (h:i<l.length):l.toArray[i]'h=l[i]'h:=rfl
theorem sqB {α:Type} (a:α) (l:List α) (i:Nat) (h:i+1<(a::l).length):(a::l)[i+1]=l[i]'(Nat.lt_of_succ_lt_succ h):=rfl
theorem sqC {α:Type} (a:α) (l:List α) (h:0<(a::l).length):(a::l)[0]=a:=rfl
theorem sqD {α:Type} (x:α) (l:List α) (a:α):(x::l).set 0 a=a::l:=rfl
theorem sqE {α:Type} (x:α) (l:List α) (i:Nat) (a:α):(x::l).set (i+1) a=x::l.set i a:=rfl
section
variable{P:Program} {ops:Array Oper} {Q:Exit->Act->World->Prop} {md:Region.Mode} {S R:World->Prop} {Z:Nat->Bool} {n:Nat} {ls uo:Array Bool} {a a':Act} {w:World}
theorem eG (i:Nat) {v:Value} {o:Oper} (hS:S w) (hR:R w) (h:ij P md ops Q S R Z n uo a' w) (hi:ops[i]?=some o:=by rfl) (hy: ∀w,S w->(execOp a.eval o).run P w= .ok (.value v) w:=by intro w e;go_simp;try rfl)
 (hl:ls.setIfInBounds i true=uo:=by first|(simp only [sqA,sqB,sqC,List.setIfInBounds_toArray,sqD,sqE,List.size_toArray,List.length_cons,List.length_nil,Nat.reduceAdd,Array.replicate_succ,Array.replicate_zero,List.push_toArray,List.append_toArray,List.nil_append,List.cons_append];rfl)|rfl) (ha:a.put o.dst v=a':=by first|(simp only [sqA,sqB,sqC,List.setIfInBounds_toArray,sqD,sqE,Act.put];rfl)|rfl) (h1:Region.noSelect ops=true:=by kernel_rfl) (h2:Region.free md ops ls i=true:=by kernel_rfl)
 (h3:(Region.ready md ops ls).contains i=true:=by kernel_rfl) (h4:Z i=false:=by kernel_rfl) (h5: ∀c a w,Q (.panic c) (a.put o.dst v) w->Q (.panic c) a w:=by exact λ_ _ _ h=>h)
 (h6:Region.wanted o (yielded ops a.tmps)=true:=by rfl):ij P md ops Q S R Z (n+1) ls a w:=by
 subst hl ha;exact iJ hi h1 h2 h3 h4 h5 (Or.inl ⟨h6,hy⟩) hS (Or.inl hR) h
theorem Nj (i:Nat) {o:Oper} (ho:ops[i]?=some o)
 (h: ∀K':Act->World->Prop,Shut (∀a w,S w->R w->(S w->R w->ij P md ops Q S R Z n (ls.setIfInBounds i true) a w)->K' a w)->if Region.wanted o (yielded ops a.tmps)=true then Oper.wp P o a w K' Q else K' (a.put o.dst undef) w)
 (hr:Region.ready md ops ls= [i]:=by kernel_rfl):ij P md ops Q S R Z (n+1) ls a w:=iO hr aX (cZ.cons ho h cZ.nil)
end
theorem sS:(∀(α:Type) (l:List α) (i:Nat) (h:i<l.length),l.toArray[i]'h=l[i]'h)/\(∀(α:Type) (a:α) (l:List α) (i:Nat) (h:i+1<(a::l).length),(a::l)[i+1]=l[i]'(Nat.lt_of_succ_lt_succ h))/\(∀(α:Type) (a:α) (l:List α) (h:0<(a::l).length),(a::l)[0]=a)/\
 (∀(α:Type) (l:List α) (i:Nat) (a:α),l.toArray.setIfInBounds i a=(l.set i a).toArray)/\(∀(α:Type) (x:α) (l:List α) (a:α),(x::l).set 0 a=a::l)/\(∀(α:Type) (x:α) (l:List α) (i:Nat) (a:α),(x::l).set (i+1) a=x::l.set i a)/\(∀(a:Act) (i:Nat) (v:Value),a.put i v={a with tmps:=a.tmps.setIfInBounds i v}):=
 ⟨λ_ _ _ _=>rfl,λ_ _ _ _ _=>rfl,λ_ _ _ _=>rfl,λ_ _ _ _=>List.setIfInBounds_toArray .., λ_ _ _ _=>rfl,λ_ _ _ _ _=>rfl,λ_ _ _=>rfl⟩
abbrev i64 (x:Int):Value:= .int .i64 x
structure di (w:World) (m:Nat) (a:Option Addr) (c:Nat) (rows:List (List Value)):Prop where
 le:rows.length<=c
 cap:c<=9223372036854775807
 cell: ∀i (h:i<rows.length),∃b o,a=some ⟨b,o,none⟩/\ ∀j (hj:j<(rows[i]).length),w.cell? ⟨b,o+i*m+j,none⟩=some (rows[i])[j]
theorem di.keeps {w w':World} {m:Nat} {a:Option Addr} {c:Nat} {rows:List (List Value)} (h:di w m a c rows) (e:ni w w'):di w' m a c rows:=
 ⟨h.le,h.cap,λi hi=>by obtain ⟨b,o,ha,hc⟩:=h.cell i hi;exact ⟨b,o,ha,λj hj=>e _ _ (hc j hj)⟩⟩
theorem di.ext {w w':World} {m:Nat} {a:Option Addr} {c:Nat} {rows:List (List Value)} (h:di w m a c rows) (e:Ext w w'):di w' m a c rows:=h.keeps e.keeps
structure iQ where
 name:ByteArray
 da:Option Addr
 dc:Nat
 eE:List Int
 er:Int
def iQ.cells (b:iQ):List Value:= [.string b.name,.slice b.da b.eE.length b.dc,i64 b.er]
structure cX where
 name:ByteArray
 fQ:Int
 qZ:Int
 rn:Int
 rd:Int
 Qp:Int
 S4:Int
 Qq:Int
 S5:Int
 tE:Int
 FK:Int
 aa:Option Addr
 ac:Nat
 away:List Int
def cX.cells (l:cX):List Value:= [.string l.name,i64 l.fQ,i64 l.qZ,i64 l.rn,i64 l.rd,i64 l.Qp,i64 l.S4,i64 l.Qq,i64 l.S5,i64 l.tE,i64 l.FK,.slice l.aa l.away.length l.ac]
structure iI where
 width:Int
 gm:Int
def iI.cells (s:iI):List Value:= [i64 s.width,i64 s.gm]
structure cw where
 name:ByteArray
 fc:Int
 min:Int
 max:Int
 sa:Option Addr
 sc:Nat
 bR:List iI
 mA:Int
 mB:Int
 iW:Int
 gV:Int
 iX:Int
 mC:Int
 iY:Int
 startTime:Int
 j_:Int
 iZ:Int
 ja:Int
 bC:Int
 ez:Int
 aa:Option Addr
 ac:Nat
 away:List Int
 state:Int
 hours:Int
 output:Int
def cw.cells (u:cw):List Value:= [.string u.name,i64 u.fc,i64 u.min,i64 u.max,.slice u.sa u.bR.length u.sc,i64 u.mA,i64 u.mB,i64 u.iW,i64 u.gV,i64 u.iX,i64 u.mC,i64 u.iY,i64 u.startTime,i64 u.j_,i64 u.iZ,i64 u.ja,i64 u.bC,i64 u.ez,.slice u.aa u.away.length u.ac,i64 u.state,i64 u.hours,i64 u.output]
structure cI where
 name:ByteArray
 fc:Int
 capacity:Int
 initial:Int
 final:Int
 cB:Int
 discharge:Int
 en:Int
 ed:Int
def cI.cells (s:cI):List Value:= [.string s.name,i64 s.fc,i64 s.capacity,i64 s.initial,i64 s.final,i64 s.cB,i64 s.discharge,i64 s.en,i64 s.ed]
structure gY where
 name:ByteArray
 fc:Int
 ia:Option Addr
 ic:Nat
 imp:List Int
 ea:Option Addr
 ec:Nat
 exp:List Int
 pa:Option Addr
 pc:Nat
 gm:List Int
def gY.cells (t:gY):List Value:= [.string t.name,i64 t.fc,.slice t.ia t.imp.length t.ic,.slice t.ea t.exp.length t.ec,.slice t.pa t.gm.length t.pc]
structure cH where
 unit:Int
 up:Int
 down:Int
def cH.cells (m:cH):List Value:= [i64 m.unit,i64 m.up,i64 m.down]
structure ee where
 name:ByteArray
 la:Option Addr
 lc:Nat
 lines:List Int
 bY:Bool
 ma:Option Addr
 mc:Nat
 moves:List cH
def ee.cells (o:ee):List Value:= [.string o.name,.slice o.la o.lines.length o.lc,.bool o.bY,.slice o.ma o.moves.length o.mc]
structure aq where
 hours:Int
 ra:Option Addr
 rc:Nat
 bC:List Int
 ba:Option Addr
 bc:Nat
 ar:List iQ
 la:Option Addr
 lc:Nat
 lines:List cX
 ua:Option Addr
 uc:Nat
 ay:List cw
 sa:Option Addr
 sc:Nat
 stores:List cI
 ta:Option Addr
 tc:Nat
 bF:List gY
 oa:Option Addr
 oc:Nat
 outs:List ee
def aq.cells (c:aq):List Value:= [i64 c.hours,.slice c.ra c.bC.length c.rc,.slice c.ba c.ar.length c.bc,.slice c.la c.lines.length c.lc,.slice c.ua c.ay.length c.uc,.slice c.sa c.stores.length c.sc,.slice c.ta c.bF.length c.tc,.slice c.oa c.outs.length c.oc]
abbrev C8 (c:aq):Array Value:= #[i64 c.hours,.slice c.ra c.bC.length c.rc,.slice c.ba c.ar.length c.bc,.slice c.la c.lines.length c.lc,.slice c.ua c.ay.length c.uc,.slice c.sa c.stores.length c.sc,.slice c.ta c.bF.length c.tc,.slice c.oa c.outs.length c.oc]
def lq (l:List Int):Prop:= ∀x∈l,dx x
structure bK (w:World) (c:aq):Prop where
 hours:dx c.hours
 bC:bV w c.ra c.rc c.bC
 ar:di w 3 c.ba c.bc (c.ar.map iQ.cells)
 fc: ∀b∈c.ar,b.name.size<=maxLen/\bV w b.da b.dc b.eE/\dx b.er
 lines:di w 12 c.la c.lc (c.lines.map cX.cells)
 line: ∀l∈c.lines,l.name.size<=maxLen/\bV w l.aa l.ac l.away/\lq [l.fQ,l.qZ,l.rn,l.rd,l.Qp,l.S4,l.Qq,l.S5,l.tE,l.FK]
 ay:di w 22 c.ua c.uc (c.ay.map cw.cells)
 unit: ∀u∈c.ay,u.name.size<=maxLen/\bV w u.aa u.ac u.away/\di w 2 u.sa u.sc (u.bR.map iI.cells)/\(∀s∈u.bR,lq [s.width,s.gm])/\lq [u.fc,u.min,u.max,u.mA,u.mB,u.iW,u.gV,u.iX,u.mC,u.iY,u.startTime,u.j_,u.iZ,u.ja,u.bC,u.ez,u.state,u.hours,u.output]
 stores:di w 9 c.sa c.sc (c.stores.map cI.cells)
 store: ∀s∈c.stores,s.name.size<=maxLen/\lq [s.fc,s.capacity,s.initial,s.final,s.cB,s.discharge,s.en,s.ed]
 bF:di w 5 c.ta c.tc (c.bF.map gY.cells)
 tie: ∀t∈c.bF,t.name.size<=maxLen/\bV w t.ia t.ic t.imp/\bV w t.ea t.ec t.exp/\bV w t.pa t.pc t.gm/\dx t.fc
 outs:di w 4 c.oa c.oc (c.outs.map ee.cells)
 o: ∀o∈c.outs,o.name.size<=maxLen/\bV w o.la o.lc o.lines/\di w 3 o.ma o.mc (o.moves.map cH.cells)/\ ∀m∈o.moves,lq [m.unit,m.up,m.down]
theorem bK.ext {w w':World} {c:aq} (h:bK w c) (e:Ext w w'):bK w' c:=
 ⟨h.hours,h.bC.ext e,h.ar.ext e,λb hb=>⟨(h.fc b hb).1,(h.fc b hb).2.1.ext e,(h.fc b hb).2.2⟩,h.lines.ext e,λl hl=>⟨(h.line l hl).1,(h.line l hl).2.1.ext e,(h.line l hl).2.2⟩,
   h.ay.ext e,λu hu=>⟨(h.unit u hu).1,(h.unit u hu).2.1.ext e,(h.unit u hu).2.2.1.ext e,(h.unit u hu).2.2.2⟩,h.stores.ext e,h.store,h.bF.ext e,
   λt ht=>⟨(h.tie t ht).1,(h.tie t ht).2.1.ext e,(h.tie t ht).2.2.1.ext e,(h.tie t ht).2.2.2.1.ext e,(h.tie t ht).2.2.2.2⟩,h.outs.ext e,λo ho=>⟨(h.o o ho).1,(h.o o ho).2.1.ext e,(h.o o ho).2.2.1.ext e,(h.o o ho).2.2.2⟩⟩
structure St where
 kind:Int
 idx:Int
 field:Int
 err:Int
def St.cells (s:St):List Value:= [i64 s.kind,i64 s.idx,i64 s.field,i64 s.err]
def St.at (s:St) (kind idx:Int):St:=if s.err=0 then⟨kind,idx,0,0⟩else s
def St.need (s:St) (ok:Bool) (field e:Int):St:=if s.err=0/\ok=false then⟨s.kind,s.idx,field,e⟩else s
def St.within (s:St) (field n least most:Int):St:=s.need (decide (least<=n)&&decide (n<=most)) field 3
def St.fc (s:St) (c:aq) (field i:Int):St:=s.need (decide (0<=i)&&decide (i<c.ar.length)) field 12
def St.each (s:St) (l:List Int) (field least most:Int):St:=l.foldl (λs n=>s.within field n least most) s
def St.pQ (s:St) (c:aq) (field:Int) (l:List Int) (least most:Int):St:=(s.need (decide ((l.length:Int)=c.hours)) field 4).each l field least most
theorem St.jy (s:St) (ok:Bool) (f e:Int) (h:s.err≠0):s.need ok f e=s:=by unfold St.need;rw [if_neg (λh'=>h h'.1)]
theorem St.IM (s:St) (f n a b:Int) (h:s.err≠0):s.within f n a b=s:=St.jy s _ _ _ h
theorem St.Ov (s:St) (l:List Int) (f a b:Int) (h:s.err≠0):s.each l f a b=s:=by
 unfold St.each;induction l with
 |nil=>rfl
 |cons x l ih=>rw [List.foldl_cons,St.IM s f x a b h,ih]
def Dz (c:aq) (s:St):List Value:=c.cells++s.cells
abbrev kg (w:World) (K:Nat) (c:aq) (s:St):Prop:=aY w K 147 (Dz c s)
def oU (V:World) (K:Nat) (c:aq) (s:St) (e:Ending) (w':World):Prop:=e= .returned (.tuple #[])/\kg w' K c s/\aH K V w'
theorem aH.set {b:Nat} {w w':World} (h:aH b w w') {p:Addr} (hp:p.block=b) (v:Value):aH b w (w'.setCell p v):=
 ⟨h.os,h.tape,h.output,h.drawn,by simpa [World.setCell]using h.size,λk hk hb=>by rw [Below.heap_setCell _ _ _ _ ae];exact h.block k hk hb⟩
theorem aH.nT {b o:Nat} {w w':World} {v:Value} (h:aH b w w'):aH b w (w'.setCell ⟨b,o,none⟩ v):=h.set rfl v
