/- What the claim rests on, part 2: the abstract machine, contracts of the functions, plain data. -/
import Derived.Orders
import Derived.Test.YtjgkmmjnbcbmpaaGreatZn1
set_option linter.unusedVariables false
set_option linter.unusedSimpArgs false
set_option linter.unusedSectionVars false
namespace Go.AM
section
variable {P:Program}{ow:Nat→Bool}{wf:FuncId→Bool}{n:Nat}{ops:List Oper}
def lastOf(p:Nat→Bool):Nat→Nat
 |0=>0
 |n+1=>if p n then n+1 else lastOf p n
theorem lastOf_spec(p:Nat→Bool): ∀ n,lastOf p n≤n∧(lastOf p n=0∨ ∃ m,lastOf p n=m+1∧p m=true)∧ ∀ j,lastOf p n≤j→j<n→p j=false
 |0=>by simp[lastOf]
 |n+1=>by
  obtain⟨h1,h2,h3⟩:=lastOf_spec p n;unfold lastOf;by_cases hp:p n=true
  ·rw [if_pos hp];exact⟨Nat.le_refl _,.inr ⟨n,rfl,hp⟩,fun j h4 h5=>by omega⟩
  ·rw [if_neg hp];refine⟨by omega,h2,fun j h4 h5=>?_⟩;rcases Nat.lt_or_ge j n with h6|h6
   ·exact h3 j h4 h6
   ·have:j=n:=(by omega);subst this;simpa using hp
theorem lastOf_eq{p:Nat→Bool}{n m:Nat}(h1:m≤n)(h2:m=0∨ ∃ k,m=k+1∧p k=true)(h3: ∀ j,m≤j→j<n→p j=false):lastOf p n=m:=by
 obtain⟨g1,g2,g3⟩:=lastOf_spec p n;rcases Nat.lt_trichotomy (lastOf p n) m with h|h|h
 ·rcases h2 with rfl|⟨k,rfl,hk⟩
  ·omega
  ·have:=g3 k (by omega) (by omega);rw[hk]at this;simp at this
 ·exact h
 ·rcases g2 with h4|⟨k,h4,hk⟩
  ·omega
  ·have:=h3 k (by omega) (by omega);rw[hk]at this;simp at this
theorem lastOf_congr{p q:Nat→Bool}: ∀ n,(∀ j,j<n→p j=q j)→lastOf p n=lastOf q n
 |0,_=>rfl
 |n+1,h=>by
  unfold lastOf;rw[h n (by omega),lastOf_congr n (fun j hj=>h j (by omega))]
def miss(S:Nat→Bool):Nat→Nat
 |0=>0
 |n+1=>miss S n+if S n then 0 else 1
theorem miss_same{S S':Nat→Bool}: ∀ n,(∀ j,j<n→S j=S' j)→miss S n=miss S' n
 |0,_=>rfl
 |n+1,h=>by unfold miss;rw[h n (by omega),miss_same n (fun j hj=>h j (by omega))]
theorem miss_set{S S':Nat→Bool}{i:Nat}(hi:S i=false)(hi':S' i=true)(ho: ∀ j,j≠i→S j=S' j): ∀ n,i<n→miss S n=miss S' n+1
 |0,h=>by omega
 |n+1,h=>by
  unfold miss;by_cases he:i=n
  ·subst he;rw[miss_same i (fun j hj=>ho j (by omega)),hi,hi'];simp
  ·rw [miss_set hi hi' ho n (by omega),ho n (fun e=>he e.symm)];omega
theorem all_of_miss{S:Nat→Bool}: ∀ n,miss S n=0→ ∀ j,j<n→S j=true
 |0,_,j,hj=>by omega
 |n+1,h,j,hj=>by
  unfold miss at h;by_cases he:j=n
  ·subst he;cases hs:S j with
   |true=>rfl
   |false=>rw[hs]at h;simp at h
  ·exact all_of_miss n (by omega) j (by omega)
def wrB(ops:List Oper)(t j:Nat):Bool:=decide ((ops[j]?).bind (·.dst)=some t)
def wdB(ow:Nat→Bool)(wf:FuncId→Bool)(ops:List Oper)(sk:Nat→Slots)(j:Nat):Bool:=match ops[j]? with
 |some o=>isW ow wf o&&decide (wantedB ops (sk j) o=some true)
 |none=>false
theorem wdB_iff{sk:Nat→Slots}{j:Nat}:wdB ow wf ops sk j=true↔Wd ow wf ops sk j:=by
 unfold wdB Wd;cases ops[j]? with
 |none=>simp
 |some o=>simp
def valS(ops:List Oper)(sk:Nat→Slots)(S:Nat→Bool):Slots:=fun t=>sk (lastOf (fun j=>S j&&wrB ops t j) ops.length) t
def heapS(ow:Nat→Bool)(wf:FuncId→Bool)(ops:List Oper)(sk:Nat→Slots)(hk:Nat→Heap)(S:Nat→Bool):Heap:=hk (lastOf (fun j=>S j&&wdB ow wf ops sk j) ops.length)
variable {sk:Nat→Slots}{hk:Nat→Heap}{vk:Nat→PV}
theorem Tr.slot_const(tr:Tr P ow wf n ops 0 sk hk vk){t:Nat}{i:Nat}: ∀ d,i+d≤ops.length→(∀ j,i≤j→j<i+d→wrB ops t j=false)→sk (i+d) t=sk i t
 |0,_,_=>rfl
 |d+1,hd,hw=>by
  have ih:=Tr.slot_const tr (t:=t) (i:=i) d (by omega) (fun j h1 h2=>hw j h1 (by omega));rw[← ih];have hlt:i+d<ops.length:=by omega
  obtain⟨_,b,h1,h2,h3⟩:=tr.step (i+d) ops[i+d] (Nat.zero_le _) (List.getElem?_eq_getElem hlt);have hnw:=hw (i+d) (by omega) (by omega);simp only[wrB,List.getElem?_eq_getElem hlt,Option.bind_some,decide_eq_false_iff_not]at hnw;have hupd: ∀ v,updO (sk (i+d)) ops[i+d].dst v t=sk (i+d) t:=by
   intro v;cases hdst:ops[i+d].dst with
   |none=>rfl
   |some dd=>
    simp only[updO,upd];rw[if_neg];intro e;subst e;exact hnw hdst
  rw[show i+(d+1)=i+d+1 by omega];cases b with
  |false=>rw[(h2 rfl).1];exact hupd _
  |true=>rw[(h3 rfl).1];exact hupd _
theorem Tr.heap_const(tr:Tr P ow wf n ops 0 sk hk vk){i:Nat}: ∀ d,i+d≤ops.length→(∀ j,i≤j→j<i+d→wdB ow wf ops sk j=false)→hk (i+d)=hk i
 |0,_,_=>rfl
 |d+1,hd,hw=>by
  have ih:=Tr.heap_const tr (i:=i) d (by omega) (fun j h1 h2=>hw j h1 (by omega));rw[← ih];have hlt:i+d<ops.length:=by omega
  obtain⟨_,b,h1,h2,h3⟩:=tr.step (i+d) ops[i+d] (Nat.zero_le _) (List.getElem?_eq_getElem hlt);have hnw:=hw (i+d) (by omega) (by omega);rw[show i+(d+1)=i+d+1 by omega];cases b with
  |false=>exact(h2 rfl).2
  |true=>
   refine(h3 rfl).2.2 ?_;cases hiw:isW ow wf ops[i+d]with
   |false=>rfl
   |true=>
    have:wdB ow wf ops sk (i+d)=true:=wdB_iff.2 ⟨_,List.getElem?_eq_getElem hlt,hiw,h1⟩;rw[hnw]at this;simp at this
structure Rdy(ops:List Oper)(S:Nat→Bool)(i:Nat)(o:Oper):Prop where
 at_:ops[i]? =some o
 new:S i=false
 closed:Closed ops S
 before: ∀ e∈o.after.toList,Region.binds .any e=true→S e.on=true
theorem Rdy.bef{S:Nat→Bool}{i:Nat}{o:Oper}(r:Rdy ops S i o){j:Nat}(hp:Go.AM.pre ops j i=true):S j=true:=by
 obtain⟨e,h1,h2,h3⟩:=pre_spec r.at_ hp;have he:=r.before e h1 h2;rcases h3 with rfl|⟨h4,h5⟩
 ·exact he
 ·exact r.closed.pre e.on j (by have:=(List.getElem?_eq_some_iff.1 r.at_).1;omega) he h5
theorem Rdy.not_pre{S:Nat→Bool}{i:Nat}{o:Oper}(r:Rdy ops S i o){j:Nat}(hj:j<ops.length)(hs:S j=true):Go.AM.pre ops i j=false:=by
 cases hp:Go.AM.pre ops i j with
 |false=>rfl
 |true=>have:=r.closed.pre j i hj hs hp;rw[r.new]at this;simp at this
theorem Rdy.slot(hd:DOk ow wf ops)(tr:Tr P ow wf n ops 0 sk hk vk){S:Nat→Bool}{i:Nat}{o:Oper}(r:Rdy ops S i o){t:Nat}(ht:t∈looks ops o):valS ops sk S t=sk i t:=by
 have hi:i<ops.length:=(List.getElem?_eq_some_iff.1 r.at_).1;obtain⟨h1,h2,h3⟩:=lastOf_spec (fun j=>S j&&wrB ops t j) ops.length;unfold valS;generalize lastOf (fun j=>S j&&wrB ops t j) ops.length=m at*
 -- a writer of t that is not this operation comes before or behind it
 have ord: ∀ j,j<ops.length→j≠i→wrB ops t j=true→Go.AM.pre ops j i=true∨Go.AM.pre ops i j=true:=by
  intro j hj hne hw;simp only[wrB,List.getElem?_eq_getElem hj,Option.bind_some,decide_eq_true_eq]at hw;exact hd.slot j i _ o hne (List.getElem?_eq_getElem hj) r.at_ t hw ht
 rcases Nat.lt_or_ge i m with h4|h4
 ·-- a writer behind i has been done: none can be
  rcases h2 with h2|⟨k,h2,h5⟩
  ·omega
  ·simp only[Bool.and_eq_true]at h5;by_cases hki:k=i
   ·subst hki;rw[r.new]at h5;simp at h5
   ·rcases ord k (by omega) hki h5.2 with h6|h6
    ·have:=pre_lt hd i k hi h6;omega
    ·rw [r.not_pre (by omega) h5.1]at h6;simp at h6
 ·have:=tr.slot_const (t:=t) (i:=m) (i-m) (by omega) (fun j h5 h6=>?_)
  ·rw [show m+(i-m)=i by omega]at this;exact this.symm
  ·cases hw:wrB ops t j with
   |false=>rfl
   |true=>
    have hns:=h3 j h5 (by omega);rw[hw,Bool.and_true]at hns;rcases ord j (by omega) (by omega) hw with h7|h7
    ·rw [r.bef h7]at hns;simp at hns
    ·have:=pre_lt hd j i (by omega) h7;omega
theorem Rdy.does(hd:DOk ow wf ops)(tr:Tr P ow wf n ops 0 sk hk vk){S:Nat→Bool}{i:Nat}{o:Oper}(r:Rdy ops S i o)(hw:wantedB ops (sk i) o=some true):
  (isW ow wf o=true→heapS ow wf ops sk hk S=hk i∧Does P ow o (pev (sk i)) (hk i) (vk i) (hk (i+1)))∧
  (isW ow wf o=false→Does P ow o (pev (sk i)) (heapS ow wf ops sk hk S) (vk i) (heapS ow wf ops sk hk S)):=by
 have hi:i<ops.length:=(List.getElem?_eq_some_iff.1 r.at_).1;obtain⟨h1,h2,h3⟩:=lastOf_spec (fun j=>S j&&wdB ow wf ops sk j) ops.length;obtain⟨_,b,hb,_,hb2⟩:=tr.step i o (Nat.zero_le _) r.at_;rw[hw]at hb;simp at hb;subst hb;obtain⟨_,hdo,hsame⟩:=hb2 rfl;unfold heapS;generalize lastOf (fun j=>S j&&wdB ow wf ops sk j) ops.length=m at*;refine⟨fun hiw=>⟨?_,hdo⟩,fun hiw=>?_⟩
 ·have ord: ∀ j,j<ops.length→j≠i→wdB ow wf ops sk j=true→Go.AM.pre ops j i=true∨Go.AM.pre ops i j=true:=by
   intro j hj hne hwd;obtain⟨q,hq,hqw,_⟩:=wdB_iff.1 hwd;exact hd.ww j i q o hne hq r.at_ hqw hiw
  rcases Nat.lt_or_ge i m with h4|h4
  ·rcases h2 with h2|⟨k,h2,h5⟩
   ·omega
   ·simp only[Bool.and_eq_true]at h5;by_cases hki:k=i
    ·subst hki;rw[r.new]at h5;simp at h5
    ·rcases ord k (by omega) hki h5.2 with h6|h6
     ·have:=pre_lt hd i k hi h6;omega
     ·rw [r.not_pre (by omega) h5.1]at h6;simp at h6
  ·have:=tr.heap_const (i:=m) (i-m) (by omega) (fun j h5 h6=>?_)
   ·rw [show m+(i-m)=i by omega]at this;exact this.symm
   ·cases hwd:wdB ow wf ops sk j with
    |false=>rfl
    |true=>
     have hns:=h3 j h5 (by omega);rw[hwd,Bool.and_true]at hns;rcases ord j (by omega) (by omega) hwd with h7|h7
     ·rw [r.bef h7]at hns;simp at hns
     ·have:=pre_lt hd j i (by omega) h7;omega
 ·rw [hsame hiw]at hdo;have hn:Nd ow wf ops sk i o:=⟨r.at_,hiw,hw⟩;rcases Nat.lt_or_ge i m with h4|h4
  ·rcases h2 with h2|⟨k,h2,h5⟩
   ·omega
   ·simp only[Bool.and_eq_true]at h5;have hki:k≠i:=(by intro e;subst e;rw[r.new]at h5;simp at h5);have:=(tr.apart i k o (Nat.zero_le _) (Nat.zero_le _) hn (wdB_iff.1 h5.2)).1 (by omega);rw[h2];rcases this with h6|h6
    ·rw [r.not_pre (by omega) h5.1]at h6;simp at h6
    ·exact h6
  ·-- the first change between m and i that has not been done
   have hex:(∀ j,m≤j→j<i→wdB ow wf ops sk j=false)∨ ∃ j,m≤j∧j<i∧wdB ow wf ops sk j=true∧ ∀ l,m≤l→l<j→wdB ow wf ops sk l=false:=by
    have: ∀ d,(∀ j,m≤j→j<m+d→wdB ow wf ops sk j=false)∨ ∃ j,m≤j∧j<m+d∧wdB ow wf ops sk j=true∧ ∀ l,m≤l→l<j→wdB ow wf ops sk l=false:=by
     intro d
     induction d with
     |zero=>left;intro j a b;omega
     |succ d ih=>
      rcases ih with ih|⟨j,g1,g2,g3,g4⟩
      ·cases hx:wdB ow wf ops sk (m+d)with
       |false=>
        left;intro j a b;rcases Nat.lt_or_ge j (m+d)with c|c
        ·exact ih j a c
        ·have:j=m+d:=(by omega);subst this;exact hx
       |true=>exact .inr ⟨m+d,by omega,by omega,hx,fun l a b=>ih l a b⟩
      ·exact .inr ⟨j,g1,by omega,g3,g4⟩
    have:=this (i-m)
    rwa [show m+(i-m)=i by omega]at this
   rcases hex with hno|⟨j,g1,g2,g3,g4⟩
   ·have:=tr.heap_const (i:=m) (i-m) (by omega) (fun j a b=>hno j a (by omega));rw[show m+(i-m)=i by omega]at this;rw[← this];exact hdo
   ·have:=tr.heap_const (i:=m) (j-m) (by omega) (fun l a b=>g4 l a (by omega));rw[show m+(j-m)=j by omega]at this;rw[← this];have hns:=h3 j g1 (by omega);rw[g3,Bool.and_true]at hns;rcases(tr.apart i j o (Nat.zero_le _) (Nat.zero_le _) hn (wdB_iff.1 g3)).2 g2 with h6|h6
    ·rw [r.bef h6]at hns;simp at hns
    ·exact h6
theorem Rdy.next(hd:DOk ow wf ops)(tr:Tr P ow wf n ops 0 sk hk vk){S S':Nat→Bool}{i:Nat}{o:Oper}(r:Rdy ops S i o)(hs':S' i=true)(ho: ∀ j,j≠i→S' j=S j){x:PV}(hx:sk (i+1)=updO (sk i) o.dst x):
  updO (valS ops sk S) o.dst x=valS ops sk S':=by
 have hi:i<ops.length:=(List.getElem?_eq_some_iff.1 r.at_).1;funext t;have hwr:wrB ops t i=decide (o.dst=some t):=by simp[wrB,r.at_]
 by_cases ht:o.dst=some t
 ·have hl:t∈looks ops o:=by simp[looks,ht]
  have h1:updO (valS ops sk S) o.dst x t=x:=by rw[ht];simp[updO,upd]
  have h2:sk (i+1) t=x:=by rw[hx,ht];simp[updO,upd]
  rw[h1, ← h2];unfold valS;rw[lastOf_eq (m:=i+1) (by omega) (.inr ⟨i,rfl,by rw[hs',hwr];simp[ht]⟩)];intro j h3 h4;cases hw:wrB ops t j with
  |false=>simp
  |true=>
   cases hsj:S' j with
   |false=>simp
   |true=>
    rw[ho j (by omega)]at hsj;simp only[wrB,List.getElem?_eq_getElem h4,Option.bind_some,decide_eq_true_eq]at hw;rcases hd.slot j i _ o (by omega) (List.getElem?_eq_getElem h4) r.at_ t hw hl with h7|h7
    ·have:=pre_lt hd i j hi h7;omega
    ·rw [r.not_pre h4 hsj]at h7;simp at h7
 ·have h1:updO (valS ops sk S) o.dst x t=valS ops sk S t:=by
   cases hdst:o.dst with
   |none=>rfl
   |some d=>
    simp only[updO,upd];rw[if_neg];intro e;subst e;exact ht hdst
  rw[h1];unfold valS;rw[lastOf_congr ops.length (fun j hj=>?_)];by_cases hji:j=i
  ·subst hji;rw[hwr];simp[ht]
  ·rw [ho j hji]
theorem Rdy.nextH(hd:DOk ow wf ops){S S':Nat→Bool}{i:Nat}{o:Oper}(r:Rdy ops S i o)(hs':S' i=true)(ho: ∀ j,j≠i→S' j=S j):
  (wdB ow wf ops sk i=true→heapS ow wf ops sk hk S'=hk (i+1))∧(wdB ow wf ops sk i=false→heapS ow wf ops sk hk S'=heapS ow wf ops sk hk S):=by
 have hi:i<ops.length:=(List.getElem?_eq_some_iff.1 r.at_).1;refine⟨fun hw=>?_,fun hw=>?_⟩
 ·unfold heapS;rw[lastOf_eq (m:=i+1) (by omega) (.inr ⟨i,rfl,by rw[hs',hw];try rfl⟩)];intro j h3 h4;cases hwj:wdB ow wf ops sk j with
  |false=>simp
  |true=>
   cases hsj:S' j with
   |false=>simp
   |true=>
    rw[ho j (by omega)]at hsj;obtain⟨q,hq,hqw,_⟩:=wdB_iff.1 hwj;obtain⟨q',hq',hqw',_⟩:=wdB_iff.1 hw;rw[r.at_]at hq';simp at hq';subst hq';rcases hd.ww j i q o (by omega) hq r.at_ hqw hqw' with h7|h7
    ·have:=pre_lt hd i j hi h7;omega
    ·rw [r.not_pre h4 hsj]at h7;simp at h7
 ·unfold heapS;rw[lastOf_congr ops.length (fun j hj=>?_)];by_cases hji:j=i
  ·subst hji;rw[hw];simp
  ·rw [ho j hji]
theorem Does.wp{β:Env}{s:Slots}{h h':Heap}{a:Act}{w:World}{o:Oper}{v:PV}(st:St n β s h a w)(hd:o.dst.all (fun d=>decide (d<n))=true)(hdo:Does P ow o (pev s) h v h'){K:Act→World→Prop}{Q:Exit→Act→World→Prop}
  (hk: ∀ a' w',To n β h w (fun s' h2=>s'=updO s o.dst v∧h2=h') a' w'→K a' w'):o.wp P a w K Q:=by
 refine owp_sound (P:=P) (ow:=ow) (K':=fun s' h2=>s'=updO s o.dst v∧h2=h') st hd ?_ hk;unfold Does at hdo;unfold owp;split at hdo
 ·rename_i f args hc;refine fun β w vals sm hr=>(hdo β w vals sm hr).mono ?_;rintro e w' ⟨r,h3,β',u,he,⟨rfl,rfl⟩,rest⟩;exact⟨r,h3,β',u,he,⟨rfl,rfl⟩,rest⟩
 ·rw [hdo];exact⟨rfl,rfl⟩
theorem wantedB_congr{s s':Slots}{o:Oper}(h: ∀ t,t∈looks ops o→s t=s' t):wantedB ops s o=wantedB ops s' o:=by
 unfold wantedB;cases hg:o.guard with
 |none=>rfl
 |some gw=>
  obtain⟨g,want⟩:=gw;cases ht:(ops[g]?).bind (·.dst)with
  |none=>simp[ht]
  |some t=>
   simp only[ht];rw[h t (by simp[looks,hg,ht])]
theorem any_sound(hd:DOk ow wf ops)(tr:Tr P ow wf n ops 0 sk hk vk){K:Slots→Heap→Prop}(hK:K (sk ops.length) (hk ops.length)){Q:Exit→Act→World→Prop}:
  ∀ (fuel:Nat)(listed:Array Bool)(β:Env)(a:Act)(w:World),listed.size=ops.length→Closed ops (fun j=>listed.getD j false)→miss (fun j=>listed.getD j false) ops.length≤fuel→
   St n β (valS ops sk fun j=>listed.getD j false) (heapS ow wf ops sk hk fun j=>listed.getD j false) a w→
   (∀ a' w',To n β (heapS ow wf ops sk hk fun j=>listed.getD j false) w K a' w'→Q .normal a' w')→wpAny P .any ops.toArray Q fuel listed a w:=by
 have fin: ∀ (listed:Array Bool)(β:Env)(a:Act)(w:World),(∀ j,j<ops.length→listed.getD j false=true)→
   St n β (valS ops sk fun j=>listed.getD j false) (heapS ow wf ops sk hk fun j=>listed.getD j false) a w→
   (∀ a' w',To n β (heapS ow wf ops sk hk fun j=>listed.getD j false) w K a' w'→Q .normal a' w')→Q .normal a w:=by
  intro listed β a w hall st hk';have e1:valS ops sk (fun j=>listed.getD j false)=sk ops.length:=by
   funext t;obtain⟨h1,h2,h3⟩:=lastOf_spec (fun j=>listed.getD j false&&wrB ops t j) ops.length;unfold valS;generalize lastOf (fun j=>listed.getD j false&&wrB ops t j) ops.length=m at*;have:=tr.slot_const (t:=t) (i:=m) (ops.length-m) (by omega) (fun j h5 h6=>by
    have:=h3 j h5 (by omega);rw[hall j (by omega),Bool.true_and]at this;exact this)
   rw[show m+(ops.length-m)=ops.length by omega]at this;exact this.symm
  have e2:heapS ow wf ops sk hk (fun j=>listed.getD j false)=hk ops.length:=by
   obtain⟨h1,h2,h3⟩:=lastOf_spec (fun j=>listed.getD j false&&wdB ow wf ops sk j) ops.length;unfold heapS;generalize lastOf (fun j=>listed.getD j false&&wdB ow wf ops sk j) ops.length=m at*;have:=tr.heap_const (i:=m) (ops.length-m) (by omega) (fun j h5 h6=>by
    have:=h3 j h5 (by omega);rw[hall j (by omega),Bool.true_and]at this;exact this)
   rw[show m+(ops.length-m)=ops.length by omega]at this;exact this.symm
  exact hk' a w ⟨_,_,β,by rw[← e1, ← e2]at hK;exact hK,st,Ext.refl⟩
 have rdy: ∀ (listed:Array Bool)(i:Nat),listed.size=ops.length→Closed ops (fun j=>listed.getD j false)→i∈Region.ready .any ops.toArray listed→ ∃ o,Rdy ops (fun j=>listed.getD j false) i o:=by
  intro listed i hsz hc hi;simp only[Region.ready,List.mem_filter,List.mem_range,List.size_toArray,Bool.and_eq_true,Bool.not_eq_true',List.getElem?_toArray]at hi;obtain⟨h1,h2,h3⟩:=hi;rw[List.getElem?_eq_getElem h1]at h3;simp only[Option.map_some,Option.getD_some,Array.all_eq_true_iff_forall_mem,Bool.or_eq_true,Bool.not_eq_true']at h3;refine⟨_,List.getElem?_eq_getElem h1,?_,hc,fun e he hb=>?_⟩
  ·rw [Array.getD_eq_getD_getElem?,Array.getElem?_eq_getElem (by omega)]at h2⊢;simpa using h2
  ·rcases h3 e (Array.mem_toList_iff.1 he)with h4|h4
   ·rw [hb]at h4;simp at h4
   ·exact h4
 have noRdy: ∀ (listed:Array Bool),listed.size=ops.length→Region.ready .any ops.toArray listed=[]→ ∀ j,j<ops.length→listed.getD j false=true:=by
  intro listed hsz hr j
  induction j using Nat.strongRecOn with
  |_ j ih=>
   intro hj;cases hs:listed.getD j false with
   |true=>rfl
   |false=>
    have hm:j∈Region.ready .any ops.toArray listed:=by
     simp only[Region.ready,List.mem_filter,List.mem_range,List.size_toArray,Bool.and_eq_true,Bool.not_eq_true',List.getElem?_toArray];refine⟨hj,?_,?_⟩
     ·rw [Array.getD_eq_getD_getElem?,Array.getElem?_eq_getElem (by omega)]at hs⊢;simpa using hs
     ·rw [List.getElem?_eq_getElem hj];simp only[Option.map_some,Option.getD_some,Array.all_eq_true_iff_forall_mem,Bool.or_eq_true,Bool.not_eq_true'];intro e he;cases hb:Region.binds .any e with
      |false=>exact .inl rfl
      |true=>
       have hlt:=hd.back j _ (List.getElem?_eq_getElem hj) e (Array.mem_toList_iff.2 he) hb;exact .inr (ih e.on hlt (by omega))
    rw[hr]at hm;simp at hm
 intro fuel
 induction fuel with
 |zero=>
  intro listed β a w hsz hc hm st hk';have hall:=all_of_miss (S:=fun j=>listed.getD j false) ops.length (by omega);refine⟨?_,fin listed β a w hall st hk'⟩;apply List.eq_nil_iff_forall_not_mem.2;intro i hi;obtain⟨o,r⟩:=rdy listed i hsz hc hi;have:=hall i (List.getElem?_eq_some_iff.1 r.at_).1;have hn:=r.new;rw[this]at hn;simp at hn
 |succ fuel ih=>
  intro listed β a w hsz hc hm st hk';refine⟨fun hr=>fin listed β a w (noRdy listed hsz hr) st hk',fun i hi=>?_⟩;obtain⟨o,r⟩:=rdy listed i hsz hc hi;have hil:i<ops.length:=(List.getElem?_eq_some_iff.1 r.at_).1;have hs':(listed.setIfInBounds i true).getD i false=true:=by
   rw[Array.getD_eq_getD_getElem?,Array.getElem?_setIfInBounds_self_of_lt (by omega)];try rfl
  have ho: ∀ j,j≠i→(listed.setIfInBounds i true).getD j false=listed.getD j false:=by
   intro j hj;rw[Array.getD_eq_getD_getElem?,Array.getElem?_setIfInBounds_ne (Ne.symm hj), ← Array.getD_eq_getD_getElem?]
  have hc':Closed ops (fun j=>(listed.setIfInBounds i true).getD j false):=by
   intro j q hq hj e he hb;by_cases heq:e.on=i
   ·simp only[heq];exact hs'
   ·simp only;rw[ho _ heq];by_cases hji:j=i
    ·subst hji;have:=r.at_;rw[hq]at this;simp at this;subst this;exact r.before e he hb
    ·simp only at hj;rw[ho j hji]at hj;exact hc j q hq hj e he hb
  have hm':miss (fun j=>(listed.setIfInBounds i true).getD j false) ops.length≤fuel:=by
   have:=miss_set (S:=fun j=>listed.getD j false) (S':=fun j=>(listed.setIfInBounds i true).getD j false) r.new hs' (fun j hj=>(ho j hj).symm) ops.length hil;omega
  obtain⟨hdst,b,hb,hb1,hb2⟩:=tr.step i o (Nat.zero_le _) r.at_;have hlook: ∀ t,t∈looks ops o→valS ops sk (fun j=>listed.getD j false) t=sk i t:=fun t ht=>r.slot hd tr ht;have hwant:=wanted_sound st (o:=o) (ops:=ops) (by rw[wantedB_congr hlook];exact hb);have hnext:=fun{x:PV}(hx:sk (i+1)=updO (sk i) o.dst x)=>r.next (S':=fun j=>(listed.setIfInBounds i true).getD j false) hd tr hs' ho hx
  have hnextH:=r.nextH (S':=fun j=>(listed.setIfInBounds i true).getD j false) (sk:=sk) (hk:=hk) (ow:=ow) (wf:=wf) hd hs' ho;unfold wpOp;simp only[List.getElem?_toArray,r.at_];rw[hwant];cases b with
  |false=>
   obtain⟨e1,e2⟩:=hb1 rfl;simp only[Bool.false_eq_true,if_false];have st':=st.undef (d:=o.dst) hdst;rw[hnext e1]at st';have hwdf:wdB ow wf ops sk i=false:=by
    cases hx:wdB ow wf ops sk i with
    |false=>rfl
    |true=>
     obtain⟨q,hq,_,hqw⟩:=wdB_iff.1 hx;rw[r.at_]at hq;simp at hq;subst hq;rw[hb]at hqw;simp at hqw
   have eh:=hnextH.2 hwdf;refine ih _ β _ w (by simpa using hsz) hc' hm' (by rw[eh];exact st') (fun a' w' ht=>hk' a' w' ?_);rw[eh]at ht;exact ht
  |true=>
   obtain⟨e1,e2,e3⟩:=hb2 rfl;simp only[if_true];left;have hdoes:=r.does hd tr hb;have hops: ∀ t,.tmp t∈o.op.operands→sk i t=valS ops sk (fun j=>listed.getD j false) t:=fun t ht=>(hlook t (by
    simp only[looks,List.mem_append,List.mem_filterMap];exact .inl (.inl ⟨.tmp t,Array.mem_toList_iff.2 ht,rfl⟩))).symm
   cases hiw:isW ow wf o with
   |true=>
    obtain⟨g1,g2⟩:=hdoes.1 hiw;have hwd:wdB ow wf ops sk i=true:=wdB_iff.2 ⟨o,r.at_,hiw,hb⟩;have eh:=hnextH.1 hwd;refine Does.wp st hdst (by rw[g1];exact Does_congr hops g2) (fun a' w' ht=>?_);obtain⟨s',h',β',⟨rfl,rfl⟩,st',ex⟩:=ht;rw[hnext e1]at st';refine ih _ β' a' w' (by simpa using hsz) hc' hm' (by rw[eh];exact st') (fun a'' w'' ht'=>hk' a'' w'' ?_);rw[eh]at ht';exact ht'.mono ex (fun _ _ x=>x)
   |false=>
    have g2:=hdoes.2 hiw;have hwd:wdB ow wf ops sk i=false:=by
     cases hx:wdB ow wf ops sk i with
     |false=>rfl
     |true=>
      obtain⟨q,hq,hqw,_⟩:=wdB_iff.1 hx;rw[r.at_]at hq;simp at hq;subst hq;rw[hiw]at hqw;simp at hqw
    have eh:=hnextH.2 hwd;refine Does.wp st hdst (Does_congr hops g2) (fun a' w' ht=>?_);obtain⟨s',h',β',⟨rfl,rfl⟩,st',ex⟩:=ht;rw[hnext e1]at st';refine ih _ β' a' w' (by simpa using hsz) hc' hm' (by rw[eh];exact st') (fun a'' w'' ht'=>hk' a'' w'' ?_);rw[eh]at ht';exact ht'.mono ex (fun _ _ x=>x)
theorem dwp_sound{id:Nat}(hm:P.follows .mixedOrders=true){β:Env}{s:Slots}{h:Heap}{a:Act}{w:World}{K:Slots→Heap→Prop}{Q:Exit→Act→World→Prop}(st:St n β s h a w)(hw:dwp P ow wf n ops K s h)
  (hk': ∀ a' w',To n β h w K a' w'→Q .normal a' w'):(Code.region id ops.toArray true).wp P Q a w:=by
 obtain⟨h1,h2⟩:=hw;have hd:=DOk.of h1;obtain⟨sk,hk,vk,e1,e2,hK,tr,_,_⟩:=drun_tr ops 0 [] [] s h (by simp) h2;rw[Nat.zero_add]at hK;refine wp_region_any hm ?_;obtain⟨s1,s2⟩:=st.sim.drew;have emp: ∀ (p:Nat→Bool),(fun j=>((Array.replicate ops.toArray.size false).getD j false&&p j))=fun _=>false:=by
  intro p;funext j;rw[Array.getD_eq_getD_getElem?,Array.getElem?_replicate];split<;>rfl
 have l0:lastOf (fun _=>false) ops.length=0:=lastOf_eq (Nat.zero_le _) (.inl rfl) (fun _ _ _=>rfl);have hval:valS ops sk (fun j=>(Array.replicate ops.toArray.size false).getD j false)=s:=by
  funext t;unfold valS;rw[emp,l0,e1]
 have hheap:heapS ow wf ops sk hk (fun j=>(Array.replicate ops.toArray.size false).getD j false)=h:=by
  unfold heapS;rw[emp,l0,e2]
 have hnone: ∀ j,(Array.replicate ops.toArray.size false).getD j false=false:=by
  intro j;rw[Array.getD_eq_getD_getElem?,Array.getElem?_replicate];split<;>rfl
 refine any_sound hd tr hK _ _ β a w.drew (by simp) (fun j o _ hj=>by simp only[hnone]at hj;simp at hj) ?_ ?_ ?_
 ·have: ∀ m,miss (fun j=>(Array.replicate ops.toArray.size false).getD j false) m≤m:=by
   intro m
   induction m with
   |zero=>exact Nat.le_refl _
   |succ m ih=>unfold miss;split<;>omega
  simpa using this ops.length
 ·rw [hval,hheap];exact⟨s1,fun t=>s2.rep (st.rep t),st.size,st.defers⟩
 ·rw [hheap];exact fun a' w' ht=>hk' a' w' (ht.mono s2 (fun _ _ x=>x))
end
end Go.AM
namespace Go.AM
mutual
def inN(n:Nat):PV→Prop
 | .sc _=>True
 | .ptr id _ _=>id<n
 | .cptr cs=>inNL n cs
 | .own id _ _=>id<n
 | .imm _ rows=>inNR n rows
 | .emp=>True
 | .mp id=>id<n
 | .agg cs=>inNL n cs
 | .tup cs=>inNL n cs
 | .fn _ a b=>inNL n a∧inNL n b
 | .ab _ _ _ _ _=>True
 | .lin _ _ _ _=>True
def inNL(n:Nat):List PV→Prop
 |[]=>True
 |p::ps=>inN n p∧inNL n ps
def inNR(n:Nat):List (List PV)→Prop
 |[]=>True
 |r::rs=>inNL n r∧inNR n rs
end
mutual
theorem inN_up{n m:Nat}(h:n≤m):(p:PV)→inN n p→inN m p
 | .sc _,_=>by simp only[inN]
 | .ptr _ _ _,hp=>by simp only[inN]at hp⊢;omega
 | .cptr cs,hp=>by simp only[inN]at hp⊢;exact inNL_up h cs hp
 | .own _ _ _,hp=>by simp only[inN]at hp⊢;omega
 | .imm _ rows,hp=>by simp only[inN]at hp⊢;exact inNR_up h rows hp
 | .emp,_=>by simp only[inN]
 | .mp _,hp=>by simp only[inN]at hp⊢;omega
 | .agg cs,hp=>by simp only[inN]at hp⊢;exact inNL_up h cs hp
 | .tup cs,hp=>by simp only[inN]at hp⊢;exact inNL_up h cs hp
 | .fn _ a b,hp=>by simp only[inN]at hp⊢;exact⟨inNL_up h a hp.1,inNL_up h b hp.2⟩
 | .ab _ _ _ _ _,_=>by simp only[inN]
 | .lin _ _ _ _,_=>by simp only[inN]
theorem inNL_up{n m:Nat}(h:n≤m):(l:List PV)→inNL n l→inNL m l
 |[],_=>by simp only[inNL]
 |p::ps,hp=>by simp only[inNL]at hp⊢;exact⟨inN_up h p hp.1,inNL_up h ps hp.2⟩
theorem inNR_up{n m:Nat}(h:n≤m):(l:List (List PV))→inNR n l→inNR m l
 |[],_=>by simp only[inNR]
 |p::ps,hp=>by simp only[inNR]at hp⊢;exact⟨inNL_up h p hp.1,inNR_up h ps hp.2⟩
end
def inNO(n:Nat):AObj→Prop
 | .arr _ rows=>inNR n rows
 | .map es=>inNL n (es.map (·.2))
 | .glb _ _ _=>True
section
variable {β:Env}{n m:Nat}{F F':Nat→Prop}{w:World}
mutual
theorem Rep.inN:(p:PV)→(x:Value)→Rep β m F w p x→inN m p
 | .sc _,_,_=>by simp only[inN]
 | .ptr _ _ _,_,h=>by simp only[inN];simp only[Rep]at h;exact h.1
 | .cptr cs,_,h=>by simp only[inN];simp only[Rep]at h;obtain⟨b,o,_,_,h3⟩:=h;exact RepS.inN cs b o h3
 | .own _ _ _,_,h=>by simp only[inN];simp only[Rep]at h;exact h.1
 | .imm z rows,_,h=>by
  simp only[inN];simp only[Rep]at h;obtain⟨a,cap,_,_,_,h3⟩:=h;rcases h3 with rfl|⟨b,o,_,_,h5⟩
  ·simp only[inNR]
  ·exact RepR.inN z rows b o h5
 | .emp,_,_=>by simp only[inN]
 | .mp _,_,h=>by simp only[inN];simp only[Rep]at h;exact h.1
 | .agg cs,_,h=>by simp only[inN];simp only[Rep]at h;obtain⟨xs,_,_,h3⟩:=h;exact RepL.inN cs xs h3
 | .tup cs,_,h=>by simp only[inN];simp only[Rep]at h;obtain⟨xs,_,h3⟩:=h;exact RepL.inN cs xs h3
 | .fn _ a b,_,h=>by simp only[inN];simp only[Rep]at h;obtain⟨xs,ys,_,h3,h4⟩:=h;exact⟨RepL.inN a xs h3,RepL.inN b ys h4⟩
 | .ab _ _ _ _ _,_,_=>by simp only[inN]
 | .lin _ _ _ _,_,_=>by simp only[inN]
theorem RepS.inN:(l:List PV)→(b o:Nat)→RepS β m F w l b o→inNL m l
 |[],_,_,_=>by simp only[inNL]
 |p::ps,b,o,h=>by
  simp only[inNL];simp only[RepS]at h;obtain⟨⟨v,_,_,h3⟩,h4⟩:=h;exact⟨Rep.inN p v h3,RepS.inN ps b (o+1) h4⟩
theorem RepR.inN(z:Nat):(l:List (List PV))→(b o:Nat)→RepR β m F w z l b o→inNR m l
 |[],_,_,_=>by simp only[inNR]
 |r::rs,b,o,h=>by
  simp only[inNR];simp only[RepR]at h;exact⟨RepS.inN r b o h.1.2,RepR.inN z rs b (o+z) h.2⟩
theorem RepL.inN:(l:List PV)→(xs:List Value)→RepL β m F w l xs→inNL m l
 |[],_,_=>by simp only[inNL]
 |_::_,[],h=>by simp only[RepL]at h
 |p::ps,v::vs,h=>by
  simp only[inNL];simp only[RepL]at h;exact⟨Rep.inN p v h.1,RepL.inN ps vs h.2⟩
end
mutual
theorem Rep.low(hF: ∀ b,F b→F' b):(p:PV)→(x:Value)→inN n p→Rep β m F w p x→Rep β n F' w p x
 | .sc _,_,_,h=>by simpa only[Rep]using h
 | .ptr _ _ _,_,hs,h=>by simp only[inN]at hs;simp only[Rep]at h⊢;exact⟨hs,h.2⟩
 | .cptr cs,_,hs,h=>by
  simp only[inN]at hs;simp only[Rep]at h⊢;obtain⟨b,o,h1,h2,h3⟩:=h;exact⟨b,o,hF b h1,h2,RepS.low hF cs b o hs h3⟩
 | .own _ _ _,_,hs,h=>by simp only[inN]at hs;simp only[Rep]at h⊢;exact⟨hs,h.2⟩
 | .imm z rows,_,hs,h=>by
  simp only[inN]at hs;simp only[Rep]at h⊢;obtain⟨a,cap,h1,h2,h2',h3⟩:=h;exact⟨a,cap,h1,h2,h2',h3.imp id fun⟨b,o,g1,g2,g3⟩=>⟨b,o,hF b g1,g2,RepR.low hF z rows b o hs g3⟩⟩
 | .emp,_,_,h=>by simpa only[Rep]using h
 | .mp _,_,hs,h=>by simp only[inN]at hs;simp only[Rep]at h⊢;exact⟨hs,h.2⟩
 | .agg cs,_,hs,h=>by
  simp only[inN]at hs;simp only[Rep]at h⊢;obtain⟨xs,h1,h2,h3⟩:=h;exact⟨xs,h1,h2,RepL.low hF cs xs hs h3⟩
 | .tup cs,_,hs,h=>by
  simp only[inN]at hs;simp only[Rep]at h⊢;obtain⟨xs,h1,h3⟩:=h;exact⟨xs,h1,RepL.low hF cs xs hs h3⟩
 | .fn _ a b,_,hs,h=>by
  simp only[inN]at hs;simp only[Rep]at h⊢;obtain⟨xs,ys,h1,h3,h4⟩:=h;exact⟨xs,ys,h1,RepL.low hF a xs hs.1 h3,RepL.low hF b ys hs.2 h4⟩
 | .ab _ _ _ _ _,_,_,h=>by simpa only[Rep]using h
 | .lin _ _ _ _,_,_,h=>by simpa only[Rep]using h
theorem RepS.low(hF: ∀ b,F b→F' b):(l:List PV)→(b o:Nat)→inNL n l→RepS β m F w l b o→RepS β n F' w l b o
 |[],_,_,_,_=>by simp only[RepS]
 |p::ps,b,o,hs,h=>by
  simp only[inNL]at hs;simp only[RepS]at h⊢;obtain⟨⟨v,h1,h2,h3⟩,h4⟩:=h;exact⟨⟨v,h1,h2,Rep.low hF p v hs.1 h3⟩,RepS.low hF ps b (o+1) hs.2 h4⟩
theorem RepR.low(hF: ∀ b,F b→F' b)(z:Nat):(l:List (List PV))→(b o:Nat)→inNR n l→RepR β m F w z l b o→RepR β n F' w z l b o
 |[],_,_,_,_=>by simp only[RepR]
 |r::rs,b,o,hs,h=>by
  simp only[inNR]at hs;simp only[RepR]at h⊢;exact⟨⟨h.1.1,RepS.low hF r b o hs.1 h.1.2⟩,RepR.low hF z rs b (o+z) hs.2 h.2⟩
theorem RepL.low(hF: ∀ b,F b→F' b):(l:List PV)→(xs:List Value)→inNL n l→RepL β m F w l xs→RepL β n F' w l xs
 |[],[],_,_=>by simp only[RepL]
 |[],_::_,_,h=>by simp only[RepL]at h
 |_::_,[],_,h=>by simp only[RepL]at h
 |p::ps,v::vs,hs,h=>by
  simp only[inNL]at hs;simp only[RepL]at h⊢;exact⟨Rep.low hF p v hs.1 h.1,RepL.low hF ps vs hs.2 h.2⟩
end
end
theorem ObjOk.low{β:Env}{n m:Nat}{F F':Nat→Prop}{w:World}(hF: ∀ b,F b→F' b){k:Blk}{o:AObj}(hs:inNO n o)(hk:ObjOk β m F w k o):ObjOk β n F' w k o:=by
 cases o with
 |arr z rows=>
  simp only[ObjOk]at hk⊢;refine⟨hk.1,hk.2.imp id ?_⟩;rintro⟨b,c,e,fr,g1,g2,g3,g4,g5,g6⟩;exact⟨b,c,e,fr,g1,g2,g3,g4,g5,RepR.low hF z rows _ _ hs g6⟩
 |map es=>
  simp only[ObjOk]at hk⊢;obtain⟨b,fs,cl,g1,g2,g3,g4⟩:=hk;refine⟨b,fs,cl,g1,g2,?_,g4⟩;simp only[inNO]at hs;have: ∀ (es:List (Value × PV))(fs:List MapEntry),inNL n (es.map (·.2))→RepM β m F w es fs→RepM β n F' w es fs:=by
   intro es
   induction es with
   |nil=>intro fs _ h;cases fs<;>simp_all [RepM]
   |cons e es ih=>
    intro fs hs h;cases fs with
    |nil=>simp[RepM]at h
    |cons f fs=>
     simp only[List.map_cons,inNL]at hs;simp only[RepM]at h⊢;exact⟨⟨h.1.1,Rep.low hF _ _ hs.1 h.1.2⟩,ih fs hs.2 h.2⟩
  exact this _ _ hs g3
 |glb g lo hi=>
  simp only[ObjOk]at hk⊢;exact⟨hk.1,hF g hk.2.1,hk.2.2⟩
theorem ObjOk.inN{β:Env}{m:Nat}{F:Nat→Prop}{w:World}{k:Blk}{o:AObj}(hk:ObjOk β m F w k o):inNO m o:=by
 cases o with
 |arr z rows=>
  simp only[ObjOk]at hk;simp only[inNO];rcases hk.2 with⟨_,rfl⟩|⟨b,c,e,fr,g1,g2,g3,g4,g5,g6⟩
  ·simp only[inNR]
  ·exact RepR.inN z rows _ _ g6
 |map es=>
  simp only[ObjOk]at hk;obtain⟨b,fs,cl,g1,g2,g3,_⟩:=hk;simp only[inNO];have: ∀ (es:List (Value × PV))(fs:List MapEntry),RepM β m F w es fs→inNL m (es.map (·.2)):=by
   intro es
   induction es with
   |nil=>intro fs _;simp only[List.map_nil,inNL]
   |cons e es ih=>
    intro fs h;cases fs with
    |nil=>simp[RepM]at h
    |cons f fs=>
     simp only[RepM]at h;simp only[List.map_cons,inNL];exact⟨Rep.inN _ _ h.1.2,ih fs h.2⟩
  exact this _ _ g3
 |glb g lo hi=>simp only[inNO]
end Go.AM
namespace Go.AM
section
variable {P:Program}{ow:Nat→Bool}{wf:FuncId→Bool}{n:Nat}{β:Env}{h:Heap}{w:World}{s:Slots}{a:Act}
def Heap.bump(h:Heap)(m:Nat):Heap:=⟨h.next+m,h.obj⟩
theorem St.bump(st:St n β s h a w)(m:Nat): ∃ β0,St n β0 s (h.bump m) a w∧Ext β h w β0 (h.bump m) w∧ ∀ id,h.next≤id→(β0 id).b=none:=by
 have hb: ∀ id,(h.obj id).isSome=true→id<h.next:=st.sim.lt
 have e:Ext β h w ⟨fun id=>if id<h.next then β id else⟨none,0,0,0⟩,β.X⟩ (h.bump m) w:=
  ⟨rfl,rfl,rfl,Nat.le_refl _,Nat.le_add_right _ _,fun id hid=>by simp[hid],rfl,fun _ _ _=>rfl,fun b hbb=>⟨⟨hbb.1,fun id hs=>by
   have:=hb id hs;simp only[this,if_true];exact hbb.2.1 id hs,hbb.2.2⟩,rfl⟩,Nat.le_refl _⟩
 refine⟨⟨fun id=>if id<h.next then β id else⟨none,0,0,0⟩,β.X⟩,⟨⟨fun id hs=>?_,fun id o ho=>?_,fun i j hi hj b h1 h2=>?_,st.sim.xs,fun id hs b h1=>?_,fun id hs=>by have:=hb id hs;simp only[this,if_true];exact st.sim.o0 id hs⟩,fun t=>e.rep (st.rep t),st.size,st.defers⟩,e,fun id hid=>?_⟩
 ·exact Nat.lt_of_lt_of_le (hb id hs) (Nat.le_add_right _ _)
 ·have hid:=hb id (by rw[show h.obj id=some o from ho];try rfl);have:=ObjOk.mv e.mv (fun _ _=>rfl) (st.sim.ok id o ho);simp only[hid,if_true];exact this
 ·simp only[hb i hi,hb j hj,if_true]at h1 h2;exact st.sim.inj i j hi hj b h1 h2
 ·simp only[hb id hs,if_true]at h1;exact st.sim.nx id hs b h1
 ·simp only[show ¬ id<h.next by omega,if_false]
theorem St.hide{i z:Nat}{rows:List (List PV)}(hr:rows≠[])(hi:i<h.next)(hn:h.obj i=none)(st:St n β s (h.set i (.arr z rows)) a w):
  ∃ βX,St n βX s h a w∧ ∀ (β':Env)(s':Slots)(h':Heap)(a':Act)(w':World),St n β' s' h' a' w'→Ext βX h w β' h' w'→h'.obj i=none→
   ∃ β'',St n β'' s' (h'.set i (.arr z rows)) a' w'∧Ext β (h.set i (.arr z rows)) w β'' (h'.set i (.arr z rows)) w':=by
 have oi:(h.set i (.arr z rows)).obj i=some (.arr z rows):=by simp[Heap.set]
 have on: ∀ j,j≠i→(h.set i (.arr z rows)).obj j=h.obj j:=fun j hj=>by simp[Heap.set,hj]
 have live: ∀ j,(h.obj j).isSome=true→j≠i:=fun j hj e=>by rw[e,hn]at hj;simp at hj
 have hok:=st.sim.ok i _ oi;obtain⟨b,hb⟩: ∃ b,(β i).b=some b:=by
  simp only[ObjOk]at hok;rcases hok.2 with⟨_,h2⟩|⟨b,c,e,fr,h2,_⟩
  ·exact (hr h2).elim
  ·exact ⟨b,h2⟩
 have hbl:b<w.heap.size:=st.sim.blk_lt oi hb;have fzd: ∀ c,Fz β (h.set i (.arr z rows)) w c→Fz ⟨β.bl,⟨fun d=>β.X d∨d=b,β.X.T⟩⟩ h w c:=fun c hc=>⟨hc.1,fun j hj=>hc.2.1 j (by rw[on j (live j hj)];exact hj),fun hx=>hx.elim hc.2.2 (fun e=>hc.2.1 i (by rw[oi];try rfl) (by rw[e];exact hb))⟩;have m1:Mv β h.next (Fz β (h.set i (.arr z rows)) w) w ⟨β.bl,⟨fun d=>β.X d∨d=b,β.X.T⟩⟩ h.next (Fz ⟨β.bl,⟨fun d=>β.X d∨d=b,β.X.T⟩⟩ h w) w:=⟨Nat.le_refl _,fun _ _ _=>rfl,fun c hc=>⟨fzd c hc,rfl⟩,rfl⟩
 refine⟨⟨β.bl,⟨fun d=>β.X d∨d=b,β.X.T⟩⟩,⟨⟨fun id hs=>?_,fun id o ho=>?_,fun j k hj hk c h1 h2=>?_,fun c hc=>?_,fun id hs c h1=>?_,fun id hs=>st.sim.o0 id (by rw[on id (live id hs)];exact hs)⟩,fun t=>Rep.mv m1 _ _ (st.rep t),st.size,st.defers⟩,?_⟩
 ·exact st.sim.lt id (by rw[on id (live id hs)];exact hs)
 ·have:=live id (by rw[ho];try rfl);exact ObjOk.mv m1 (fun _ _=>rfl) (st.sim.ok id o (by rw[on id this];exact ho))
 ·exact st.sim.inj j k (by rw[on j (live j hj)];exact hj) (by rw[on k (live k hk)];exact hk) c h1 h2
 ·exact hc.elim (st.sim.xs c) (fun e=>by rw[e];exact hbl)
 ·have hs':((h.set i (.arr z rows)).obj id).isSome=true:=by rw[on id (live id hs)];exact hs
  rintro(hx|hx)
  ·exact st.sim.nx id hs' c h1 hx
  ·subst hx;exact live id hs (st.sim.inj id i hs' (by rw[oi];try rfl) _ h1 hb)
 ·intro β' s' h' a' w' st' ex hn';have on': ∀ j,j≠i→(h'.set i (.arr z rows)).obj j=h'.obj j:=fun j hj=>by simp[Heap.set,hj]
  have live': ∀ j,(h'.obj j).isSome=true→j≠i:=fun j hj e=>by rw[e,hn']at hj;simp at hj
  have hbi:(β' i)=β i:=ex.beta i hi;have hX:β'.X=⟨fun d=>β.X d∨d=b,β.X.T⟩:=ex.X;have fzu: ∀ c,Fz β' h' w' c→Fz ⟨β'.bl,β.X⟩ (h'.set i (.arr z rows)) w' c:=fun c hc=>by
   have h3:=hc.2.2;rw[hX]at h3;refine⟨hc.1,fun j hj hjc=>?_,fun hx=>h3 (.inl hx)⟩;by_cases hji:j=i
   ·subst hji;have h4:(β' j).b=some c:=hjc;rw[hbi,hb]at h4;simp at h4;exact h3 (.inr h4.symm)
   ·rw [on' j hji]at hj;exact hc.2.1 j hj hjc
  have blkeq:w'.heap[b]? =w.heap[b]?:=ex.xh b (.inr rfl) hbl;have e2:Ext β (h.set i (.arr z rows)) w ⟨β'.bl,β.X⟩ (h'.set i (.arr z rows)) w':=
   ⟨ex.os,ex.tape,ex.output,ex.size,ex.next,ex.beta,rfl,fun c hc hl=>ex.xh c (.inl hc) hl,fun c hc=>⟨fzu c (ex.fz c (fzd c hc)).1,(ex.fz c (fzd c hc)).2⟩,ex.drawn⟩
  have m2:Mv β' h'.next (Fz β' h' w') w' ⟨β'.bl,β.X⟩ h'.next (Fz ⟨β'.bl,β.X⟩ (h'.set i (.arr z rows)) w') w':=⟨Nat.le_refl _,fun _ _ _=>rfl,fun c hc=>⟨fzu c hc,rfl⟩,by rw[hX]⟩
  refine⟨⟨β'.bl,β.X⟩,⟨⟨fun id hs=>?_,fun id o ho=>?_,fun j k hj hk c h1 h2=>?_,fun c hc=>?_,fun id hs c h1=>?_,fun id hs=>by
   show(β' id).o=0;by_cases hid:id=i
   ·rw [hid,hbi];exact st.sim.o0 i (by rw[oi];try rfl)
   ·rw [on' id hid]at hs;exact st'.sim.o0 id hs⟩,fun t=>Rep.mv m2 _ _ (st'.rep t),st'.size,st'.defers⟩,e2⟩
  ·by_cases hid:id=i
   ·subst hid;exact Nat.lt_of_lt_of_le hi ex.next
   ·rw [on' id hid]at hs;exact st'.sim.lt id hs
  ·by_cases hid:id=i
   ·subst hid;have:o= .arr z rows:=(by simp[Heap.set]at ho;exact ho.symm);subst this;have h3:=ObjOk.mv (w':=w') (β':=⟨β'.bl,β.X⟩) (n':=h'.next) (F':=Fz ⟨β'.bl,β.X⟩ (h'.set id (.arr z rows)) w') e2.mv (fun c hc=>by rw[hb]at hc;simp at hc;subst hc;exact blkeq) hok;show ObjOk _ _ _ _ (β' id) _;rw[hbi];exact h3
   ·rw [on' id hid]at ho;exact ObjOk.mv m2 (fun _ _=>rfl) (st'.sim.ok id o ho)
  ·have key: ∀ j,j≠i→((h'.set i (.arr z rows)).obj j).isSome=true→(β' j).b≠some b:=fun j hji hj e=>by
    rw[on' j hji]at hj;have:=st'.sim.nx j hj b e;rw[hX]at this;exact this (.inr rfl)
   by_cases hji:j=i
   ·by_cases hki:k=i
    ·rw [hji,hki]
    ·have h3:(β' j).b=some c:=h1;rw[hji,hbi,hb]at h3;simp at h3;subst h3;exact(key k hki hk h2).elim
   ·by_cases hki:k=i
    ·have h3:(β' k).b=some c:=h2;rw[hki,hbi,hb]at h3;simp at h3;subst h3;exact(key j hji hj h1).elim
    ·rw [on' j hji]at hj;rw[on' k hki]at hk;exact st'.sim.inj j k hj hk c h1 h2
  ·exact st'.sim.xs c (by rw[hX];exact .inl hc)
  ·by_cases hid:id=i
   ·have h3:(β' id).b=some c:=h1;rw[hid,hbi]at h3;exact st.sim.nx i (by rw[oi];try rfl) c h3
   ·rw [on' id hid]at hs;have:=st'.sim.nx id hs c h1;rw[hX]at this;exact fun hx=>this (.inl hx)
def ovl(H:Heap)(base:Nat)(ob:Nat→AObj)(p:Nat→Bool):Heap:=⟨H.next,fun id=>if base≤id∧p (id-base)=true then some (ob (id-base))else H.obj id⟩
theorem heap_ext{h h':Heap}(h1:h.next=h'.next)(h2: ∀ id,h.obj id=h'.obj id):h=h':=by
 cases h;cases h';simp only at h1 h2;subst h1;congr 1;funext id;exact h2 id
theorem ovl_none{H:Heap}{base:Nat}{ob:Nat→AObj}{p:Nat→Bool}(hp: ∀ f,p f=false):ovl H base ob p=H:=heap_ext rfl fun id=>by simp[ovl,hp]
theorem ovl_congr{H:Heap}{base:Nat}{ob:Nat→AObj}{p q:Nat→Bool}(hp: ∀ f,p f=q f):ovl H base ob p=ovl H base ob q:=by rw[show p=q from funext hp]
theorem ovl_set{H:Heap}{base m:Nat}{ob:Nat→AObj}{p q:Nat→Bool}(hm:q m=true)(hq: ∀ f,f≠m→q f=p f):ovl H base ob q=(ovl H base ob p).set (base+m) (ob m):=heap_ext rfl fun id=>by
 simp only[ovl,Heap.set];by_cases h1:id=base+m
 ·subst h1;have:base+m-base=m:=by omega
  simp[this,hm]
 ·rw [if_neg h1];by_cases h2:base≤id
  ·rw [hq (id-base) (by omega)]
  ·simp [h2]
theorem St.hides{H:Heap}{base:Nat}{ob:Nat→AObj}{p:Nat→Bool}(hp: ∀ f,p f=true→base+f<H.next∧H.obj (base+f)=none∧ ∃ z rows,ob f= .arr z rows∧rows≠[]): ∀ (m:Nat){β:Env},St n β s (ovl H base ob fun f=>decide (f<m)&&p f) a w→
  ∃ βX,St n βX s H a w∧ ∀ (β':Env)(s':Slots)(h':Heap)(a':Act)(w':World),St n β' s' h' a' w'→Ext βX H w β' h' w'→(∀ f,p f=true→h'.obj (base+f)=none)→
   ∃ β'',St n β'' s' (ovl h' base ob fun f=>decide (f<m)&&p f) a' w'∧Ext β (ovl H base ob fun f=>decide (f<m)&&p f) w β'' (ovl h' base ob fun f=>decide (f<m)&&p f) w'
 |0,β,st=>by
  rw[ovl_none (by simp)]at st;refine⟨β,st,fun β' s' h' a' w' st' ex _=>⟨β',?_,?_⟩⟩
  ·rw [ovl_none (by simp)];exact st'
  ·rw [ovl_none (by simp),ovl_none (by simp)];exact ex
 |m+1,β,st=>by
  cases hpm:p m with
  |false=>
   have hc: ∀ H:Heap,(ovl H base ob fun f=>decide (f<m+1)&&p f)=ovl H base ob fun f=>decide (f<m)&&p f:=fun H=>ovl_congr fun f=>by
    by_cases hf:f=m
    ·subst hf;simp[hpm]
    ·rw [show decide (f<m+1)=decide (f<m) by simp;omega]
   simp only[hc]at st⊢;exact St.hides hp m st
  |true=>
   obtain⟨g1,g2,z,rows,g3,g4⟩:=hp m hpm;have hc: ∀ H:Heap,(ovl H base ob fun f=>decide (f<m+1)&&p f)=(ovl H base ob fun f=>decide (f<m)&&p f).set (base+m) (.arr z rows):=fun H=>by
    rw[← g3];exact ovl_set (by simp[hpm]) fun f hf=>by rw[show decide (f<m+1)=decide (f<m) by simp;omega]
   have hnn: ∀ H:Heap,H.obj (base+m)=none→(ovl H base ob fun f=>decide (f<m)&&p f).obj (base+m)=none:=fun H hH=>by
    simp only[ovl];rw[if_neg (by rw[show base+m-base=m by omega];simp)];exact hH
   rw[hc]at st;obtain⟨β1,st1,back1⟩:=St.hide g4 (show base+m<(ovl H base ob _).next from g1) (hnn H g2) st;obtain⟨β2,st2,back2⟩:=St.hides hp m st1;refine⟨β2,st2,fun β' s' h' a' w' st' ex hno=>?_⟩;obtain⟨β3,st3,ex3⟩:=back2 β' s' h' a' w' st' ex hno;obtain⟨β4,st4,ex4⟩:=back1 β3 s' _ a' w' st3 ex3 (hnn h' (hno m hpm));refine⟨β4,?_,?_⟩
   ·rw [hc];exact st4
   ·rw [hc,hc];exact ex4
theorem St.float{t:TypeId}{zs:List Value}{id0:Nat}(hz:zeroT P t=some zs)(hlt:id0<h.next)(hn:h.obj id0=none)(hb:(β id0).b=none)(st:St n β s h a w){o:Oper}(ho:o.op= .alloc t)(hd:o.dst.all (fun d=>decide (d<n))=true){K:Act→World→Prop}{Q:Exit→Act→World→Prop}
  (hk: ∀ (β':Env)(a':Act)(w':World),St n β' (updO s o.dst (.ptr id0 0 0)) (h.set id0 (.arr zs.length [zs.map .sc])) a' w'→(∀ id,id≠id0→β' id=β id)→w'.os=w.os→w'.tape=w.tape→(w'.output=w.output∧w.drawn≤w'.drawn)→w.heap.size≤w'.heap.size→β'.X=β.X→(∀ b,b<w.heap.size→w'.heap[b]? =w.heap[b]?)→(∀ b,Fz β h w b→Fz β' (h.set id0 (.arr zs.length [zs.map .sc])) w' b)→K a' w'):o.wp P a w K Q:=by
 obtain⟨i,v,h1,h2,h3,h4⟩:=zeroT_info hz;have hrun:(execOp a.eval o).run P w= .ok (.value (.pointer (some ⟨w.heap.size,0,none⟩))) (w.alloc (.cells v.cells t)):=by
  obtain⟨dst,op,ty,pos,af,gd⟩:=o;simp only at ho;subst ho;simp[execOp,Instr.alloc,zeroValue,typeInfo,h1,h2,run_newVar]
 unfold Oper.wp;rw[hrun];have on: ∀ j,j≠id0→(h.set id0 (.arr zs.length [zs.map .sc])).obj j=h.obj j:=fun j hj=>by simp[Heap.set,hj]
 have fzu: ∀ b,Fz β h w b→Fz ⟨fun id=>if id=id0 then⟨some w.heap.size,0,zs.length,v.cells.size⟩else β id,β.X⟩ (h.set id0 (.arr zs.length [zs.map .sc])) (w.alloc (.cells v.cells t)) b:=fun b hbb=>by
  refine⟨by have:=hbb.1;simp;omega,fun j hj hjb=>?_,hbb.2.2⟩;by_cases hji:j=id0
  ·subst hji;simp at hjb;have:=hbb.1;omega
  ·rw [on j hji]at hj;simp only[hji,if_false]at hjb;exact hbb.2.1 j hj hjb
 have m:Mv β h.next (Fz β h w) w ⟨fun id=>if id=id0 then⟨some w.heap.size,0,zs.length,v.cells.size⟩else β id,β.X⟩ h.next (Fz ⟨fun id=>if id=id0 then⟨some w.heap.size,0,zs.length,v.cells.size⟩else β id,β.X⟩ (h.set id0 (.arr zs.length [zs.map .sc])) (w.alloc (.cells v.cells t))) (w.alloc (.cells v.cells t)):=
  ⟨Nat.le_refl _,fun id hid hbn=>by
   have:id≠id0:=fun e=>hbn (by rw[e];exact hb);simp[this],fun b hbb=>⟨fzu b hbb,heap_alloc_old w _ hbb.1⟩,rfl⟩
 have hcl:v.cells.size=zs.length:=by rw[← h3];simp
 have hrow:RowsAt β h.next (Fz β h w) w zs.length [zs.map .sc] v.cells:=
  RowsAt.of_flat (xs:=zs) (by simp) (by simpa using RepL.sc zs) h4 (fun j u hu=>by rw[← h3]at hu;simpa using hu)
 refine hk ⟨fun id=>if id=id0 then⟨some w.heap.size,0,zs.length,v.cells.size⟩else β id,β.X⟩ _ _ ⟨⟨fun id hs=>?_,fun id ob hob=>?_,fun j k hj hkk b g1 g2=>?_,fun b hx=>?_,fun id hs b g1=>?_,fun id hs=>by
   by_cases hid:id=id0
   ·simp [hid]
   ·simp only[hid,if_false];rw[on id hid]at hs;exact st.sim.o0 id hs⟩,fun u=>?_,?_,?_⟩ (fun id hne=>by simp[hne]) rfl rfl ⟨rfl,Nat.le_refl _⟩ (by simp) rfl (fun b hbl=>heap_alloc_old w _ hbl) fzu
 ·by_cases hid:id=id0
  ·subst hid;exact hlt
  ·rw [on id hid]at hs;exact st.sim.lt id hs
 ·by_cases hid:id=id0
  ·subst hid;have:ob= .arr zs.length [zs.map .sc]:=(by simp[Heap.set]at hob;exact hob.symm);subst this;simp only[ObjOk,if_true];exact⟨trivial,.inr ⟨w.heap.size,v.cells,t,(0,0),rfl,heap_alloc_new w _,rfl,by simp[hcl],fun i _=>by simp,hrow.rep m (heap_alloc_new w _)⟩⟩
  ·rw [on id hid]at hob;have g:=ObjOk.mv m (fun b hbb=>heap_alloc_old w _ (st.sim.blk_lt hob hbb)) (st.sim.ok id ob hob);simp only[hid,if_false];exact g
 ·have key: ∀ j,j≠id0→((h.set id0 (.arr zs.length [zs.map .sc])).obj j).isSome=true→(β j).b≠some w.heap.size:=fun j hji hj e=>by
   rw[on j hji]at hj;have:=st.sim.blk_lt (Option.eq_some_of_isSome hj) e;omega
  by_cases hji:j=id0
  ·by_cases hki:k=id0
   ·rw [hji,hki]
   ·subst hji;simp at g1;simp only[hki,if_false]at g2;rw[← g1]at g2;exact(key k hki hkk g2).elim
  ·by_cases hki:k=id0
   ·subst hki;simp at g2;simp only[hji,if_false]at g1;rw[← g2]at g1;exact(key j hji hj g1).elim
   ·simp only[hji,hki,if_false]at g1 g2;rw[on j hji]at hj;rw[on k hki]at hkk;exact st.sim.inj j k hj hkk b g1 g2
 ·have:=st.sim.xs b hx;simp;omega
 ·by_cases hid:id=id0
  ·subst hid;simp at g1;exact fun hx=>by have:=st.sim.xs b hx;omega
  ·simp only[hid,if_false]at g1;rw[on id hid]at hs;exact st.sim.nx id hs b g1
 ·have old: ∀ u,RepH ⟨fun id=>if id=id0 then⟨some w.heap.size,0,zs.length,v.cells.size⟩else β id,β.X⟩ (h.set id0 (.arr zs.length [zs.map .sc])) (w.alloc (.cells v.cells t)) (s u) (a.tmps.getD u Go.undef):=fun u=>Rep.mv m _ _ (st.rep u);cases hdd:o.dst with
  |none=>simp only[updO,Act.put];exact old u
  |some d=>
   rw[hdd]at hd;simp at hd;simp only[updO,upd,Act.put];by_cases hu:u=d
   ·subst hu;rw[if_pos rfl];have hus:u<a.tmps.size:=(by rw[st.size];exact hd);have:RepH ⟨fun id=>if id=id0 then⟨some w.heap.size,0,zs.length,v.cells.size⟩else β id,β.X⟩ (h.set id0 (.arr zs.length [zs.map .sc])) (w.alloc (.cells v.cells t)) (.ptr id0 0 0) (.pointer (some ⟨w.heap.size,0,none⟩)):=by
     simp only[RepH,Rep];exact⟨hlt,w.heap.size,by simp,by simp⟩
    simpa[Array.getD_eq_getD_getElem?,hus]using this
   ·rw [if_neg hu];simpa[Array.getD_eq_getD_getElem?,Array.getElem?_setIfInBounds_ne (Ne.symm hu)]using old u
 ·cases hdd:o.dst with
  |none=>exact st.size
  |some d=>simp[Act.put,st.size]
 ·cases hdd:o.dst with
  |none=>exact st.defers
  |some d=>simp[Act.put,st.defers]
end
end Go.AM
namespace Go.AM
section
variable {P:Program}{ow:Nat→Bool}{wf:FuncId→Bool}{n:Nat}{ops:List Oper}
theorem doesR_of{o:Oper}(hw:isW ow wf o=false){id:Nat}{ρ:Operand→PV}{h h':Heap}{v:PV}:DoesR P ow id o ρ h v h'↔Does P ow o ρ h v h':=by
 unfold DoesR;split
 ·rename_i t he;simp[isW,he]at hw
 ·exact Iff.rfl
structure Tr2(P:Program)(ow:Nat→Bool)(wf:FuncId→Bool)(n:Nat)(ops:List Oper)(base:Nat)(k:Nat)(sk:Nat→Slots)(hk:Nat→Heap)(vk:Nat→PV):Prop where
 step: ∀ (j:Nat)(o:Oper),k≤j→ops[j]? =some o→o.dst.all (fun d=>decide (d<n))=true∧ ∃ b,wantedB ops (sk j) o=some b∧
  (b=false→sk (j+1)=updO (sk j) o.dst (.sc undef)∧hk (j+1)=hk j)∧
  (b=true→sk (j+1)=updO (sk j) o.dst (vk j)∧DoesR P ow (base+j) o (pev (sk j)) (hk j) (vk j) (hk (j+1))∧(isW ow wf o=false→hk (j+1)=hk j)∧(isW ow wf o=true→ ∀ f,j<f→alB ops f=true→(hk (j+1)).obj (base+f)=none))
 apart: ∀ (i j:Nat)(o:Oper),k≤i→k≤j→Nd ow wf ops sk i o→Wd ow wf ops sk j→
  (i<j→pre ops i j=true∨Does P ow o (pev (sk i)) (hk (j+1)) (vk i) (hk (j+1)))∧(j<i→pre ops j i=true∨Does P ow o (pev (sk i)) (hk j) (vk i) (hk j))
theorem drun2_tr{base:Nat}{K:Slots→Heap→Prop}: ∀ (l:List Oper)(k:Nat)(past:List (Nat × (Heap→Prop)))(hist:List (Nat × Heap))(s:Slots)(h:Heap),l=ops.drop k→drun2 P ow wf n ops base k l past hist K s h→
  ∃ sk hk vk,sk k=s∧hk k=h∧(K (sk (k+l.length)) (hk (k+l.length)))∧Tr2 P ow wf n ops base k sk hk vk∧
   (∀ x∈past, ∀ j,k≤j→Wd ow wf ops sk j→pre ops x.1 j=true∨x.2 (hk (j+1)))∧
   (∀ x∈hist, ∀ i o,k≤i→Nd ow wf ops sk i o→pre ops x.1 i=true∨Does P ow o (pev (sk i)) x.2 (vk i) x.2)
 |[],k,past,hist,s,h,hl,hd=>by
  simp only[drun2]at hd;have hk:ops.length≤k:=by
   have:=congrArg List.length hl;simp at this;omega
  have hno: ∀ (j:Nat)(o:Oper),k≤j→ops[j]? =some o→False:=fun j o hj ho=>by
   have:=(List.getElem?_eq_some_iff.1 ho).1;omega
  refine⟨fun _=>s,fun _=>h,fun _=> .emp,rfl,rfl,hd,⟨fun j o hj ho=>(hno j o hj ho).elim,fun i j o hi _ hn _=>(hno i o hi hn.1).elim⟩,fun x _ j hj hw=>?_,fun x _ i o hi hn=>(hno i o hi hn.1).elim⟩;obtain⟨o,ho,_⟩:=hw;exact(hno j o hj ho).elim
 |o::rest,k,past,hist,s,h,hl,hd=>by
  have hok:ops[k]? =some o:=by
   have:(ops.drop k)[0]? =some o:=(by rw[← hl];try rfl);simpa using this
  have hrest:rest=ops.drop (k+1):=by
   have:=congrArg List.tail hl;simpa using this
  simp only[drun2]at hd;obtain⟨hdst,hd⟩:=hd;have ext: ∀ {sk':Nat→Slots}{j:Nat},k+1≤j→(atk k s sk') j=sk' j:=fun hj=>atk_ne (by omega);have exth: ∀ {hk':Nat→Heap}{j:Nat},k+1≤j→(atk k h hk') j=hk' j:=fun hj=>atk_ne (by omega);split at hd
  ·exact hd.elim
  ·rename_i b hb;cases b with
   |false=>
    simp only[Bool.false_eq_true,if_false]at hd;obtain⟨sk',hk',vk',e1,e2,e3,tr,hp,hh⟩:=drun2_tr rest (k+1) past hist _ _ hrest hd;have hnW:¬ Wd ow wf ops (atk k s sk') k:=by
     rintro⟨q,hq,_,hw⟩;rw[hok]at hq;simp at hq;subst hq;rw[atk_self,hb]at hw;simp at hw
    have hnN: ∀ q,¬ Nd ow wf ops (atk k s sk') k q:=by
     rintro q ⟨hq,_,hw⟩;rw[hok]at hq;simp at hq;subst hq;rw[atk_self,hb]at hw;simp at hw
    have wdE: ∀ j,k+1≤j→Wd ow wf ops (atk k s sk') j→Wd ow wf ops sk' j:=by
     intro j hj hw;unfold Wd at hw⊢;rw[ext hj]at hw;exact hw
    have ndE: ∀ j q,k+1≤j→Nd ow wf ops (atk k s sk') j q→Nd ow wf ops sk' j q:=by
     intro j q hj hw;unfold Nd at hw⊢;rw[ext hj]at hw;exact hw
    have gt: ∀ j,k≤j→Wd ow wf ops (atk k s sk') j→k+1≤j:=by
     intro j hj hw;rcases Nat.lt_or_ge k j with h1|h1
     ·exact h1
     ·have:j=k:=(by omega);subst this;exact(hnW hw).elim
    have gtn: ∀ j q,k≤j→Nd ow wf ops (atk k s sk') j q→k+1≤j:=by
     intro j q hj hw;rcases Nat.lt_or_ge k j with h1|h1
     ·exact h1
     ·have:j=k:=(by omega);subst this;exact(hnN q hw).elim
    refine⟨atk k s sk',atk k h hk',vk',atk_self,atk_self,?_,⟨fun j q hj hq=>?_,fun i j q hi hj hn hw=>?_⟩,fun x hx j hj hw=>?_,fun x hx i q hi hn=>?_⟩
    ·rw [atk_ne (by simp),atk_ne (by simp)];rw[show k+(o::rest).length=k+1+rest.length by simp;omega];exact e3
    ·rcases Nat.lt_or_ge k j with h1|h1
     ·obtain ⟨t1,t2⟩:=tr.step j q h1 hq;refine⟨t1,?_⟩;rw[ext (sk':=sk') h1,ext (sk':=sk') (by omega:k+1≤j+1),exth (hk':=hk') h1,exth (hk':=hk') (by omega:k+1≤j+1)];exact t2
     ·have hjk:j=k:=(by omega);subst hjk;rw[hok]at hq;simp at hq;subst hq;refine⟨hdst,false,by rw[atk_self];exact hb,fun _=>?_,fun hc=>by cases hc⟩;rw[ext (sk':=sk') (Nat.le_refl _),exth (hk':=hk') (Nat.le_refl _)];simp[e1,e2,atk_self]
    ·have hi':=gtn i q hi hn;have hj':=gt j hj hw;have:=tr.apart i j q hi' hj' (ndE i q hi' hn) (wdE j hj' hw);rw[ext (sk':=sk') hi',exth (hk':=hk') (by omega:k+1≤j+1),exth (hk':=hk') hj'];exact this
    ·have hj':=gt j hj hw;have:=hp x hx j hj' (wdE j hj' hw);rw[exth (hk':=hk') (by omega:k+1≤j+1)];exact this
    ·have hi':=gtn i q hi hn;have:=hh x hx i q hi' (ndE i q hi' hn);rw[ext (sk':=sk') hi'];exact this
   |true=>
    simp only[if_true]at hd;split at hd
    ·rename_i hw;obtain⟨v,h',hdo,hnone,hpast,hd⟩:=hd;obtain⟨sk',hk',vk',e1,e2,e3,tr,hp,hh⟩:=drun2_tr rest (k+1) past ((k,h)::hist) _ _ hrest hd;have hnN: ∀ q,¬ Nd ow wf ops (atk k s sk') k q:=by
      rintro q ⟨hq,hq2,_⟩;rw[hok]at hq;simp at hq;subst hq;rw[hw]at hq2;simp at hq2
     have wdE: ∀ j,k+1≤j→Wd ow wf ops (atk k s sk') j→Wd ow wf ops sk' j:=by
      intro j hj hw;unfold Wd at hw⊢;rw[ext hj]at hw;exact hw
     have ndE: ∀ j q,k+1≤j→Nd ow wf ops (atk k s sk') j q→Nd ow wf ops sk' j q:=by
      intro j q hj hw;unfold Nd at hw⊢;rw[ext hj]at hw;exact hw
     have gtn: ∀ j q,k≤j→Nd ow wf ops (atk k s sk') j q→k+1≤j:=by
      intro j q hj hw;rcases Nat.lt_or_ge k j with h1|h1
      ·exact h1
      ·have:j=k:=(by omega);subst this;exact(hnN q hw).elim
     have vkE: ∀ {j},k+1≤j→(atk k v vk') j=vk' j:=fun hj=>atk_ne (by omega);refine⟨atk k s sk',atk k h hk',atk k v vk',atk_self,atk_self,?_,⟨fun j q hj hq=>?_,fun i j q hi hj hn hwd=>?_⟩,fun x hx j hj hwd=>?_,fun x hx i q hi hn=>?_⟩
     ·rw [atk_ne (by simp),atk_ne (by simp)];rw[show k+(o::rest).length=k+1+rest.length by simp;omega];exact e3
     ·rcases Nat.lt_or_ge k j with h1|h1
      ·obtain ⟨t1,t2⟩:=tr.step j q h1 hq;refine⟨t1,?_⟩;rw[ext (sk':=sk') h1,ext (sk':=sk') (by omega:k+1≤j+1),exth (hk':=hk') h1,exth (hk':=hk') (by omega:k+1≤j+1),vkE h1];exact t2
      ·have hjk:j=k:=(by omega);subst hjk;rw[hok]at hq;simp at hq;subst hq;refine⟨hdst,true,by rw[atk_self];exact hb,(fun hc=>by cases hc),fun _=>?_⟩;rw[ext (sk':=sk') (Nat.le_refl _),exth (hk':=hk') (Nat.le_refl _)];simp only[atk_self,e1,e2];exact⟨trivial,hdo,(fun hc=>by rw[hw]at hc;simp at hc),fun _=>hnone⟩
     ·have hi':=gtn i q hi hn;rw[ext (sk':=sk') hi',exth (hk':=hk') (by omega:k+1≤j+1),vkE hi'];rcases Nat.lt_or_ge k j with h1|h1
      ·have:=tr.apart i j q hi' h1 (ndE i q hi' hn) (wdE j h1 hwd);rw[exth (hk':=hk') h1];exact this
      ·have hjk:j=k:=(by omega);subst hjk;refine⟨fun hlt=>by omega,fun _=>?_⟩;rw[atk_self];exact hh (j,h) (by simp) i q hi' (ndE i q hi' hn)
     ·rcases Nat.lt_or_ge k j with h1|h1
      ·rw [exth (hk':=hk') (by omega:k+1≤j+1)];exact hp x hx j h1 (wdE j h1 hwd)
      ·have hjk:j=k:=(by omega);subst hjk;rw[exth (hk':=hk') (Nat.le_refl _),e2];exact hpast x hx
     ·have hi':=gtn i q hi hn;rw[ext (sk':=sk') hi',vkE hi'];exact hh x (by simp[hx]) i q hi' (ndE i q hi' hn)
    ·rename_i hw;obtain⟨v,hdo,hhist,hd⟩:=hd;have hw':isW ow wf o=false:=(by simpa using hw);obtain⟨sk',hk',vk',e1,e2,e3,tr,hp,hh⟩:=drun2_tr rest (k+1) ((k,fun h'=>Does P ow o (pev s) h' v h')::past) hist _ _ hrest hd;have hnW:¬ Wd ow wf ops (atk k s sk') k:=by
      rintro⟨q,hq,hq2,_⟩;rw[hok]at hq;simp at hq;subst hq;exact hw hq2
     have wdE: ∀ j,k+1≤j→Wd ow wf ops (atk k s sk') j→Wd ow wf ops sk' j:=by
      intro j hj hw;unfold Wd at hw⊢;rw[ext hj]at hw;exact hw
     have ndE: ∀ j q,k+1≤j→Nd ow wf ops (atk k s sk') j q→Nd ow wf ops sk' j q:=by
      intro j q hj hw;unfold Nd at hw⊢;rw[ext hj]at hw;exact hw
     have gt: ∀ j,k≤j→Wd ow wf ops (atk k s sk') j→k+1≤j:=by
      intro j hj hw;rcases Nat.lt_or_ge k j with h1|h1
      ·exact h1
      ·have:j=k:=(by omega);subst this;exact(hnW hw).elim
     have vkE: ∀ {j},k+1≤j→(atk k v vk') j=vk' j:=fun hj=>atk_ne (by omega);refine⟨atk k s sk',atk k h hk',atk k v vk',atk_self,atk_self,?_,⟨fun j q hj hq=>?_,fun i j q hi hj hn hwd=>?_⟩,fun x hx j hj hwd=>?_,fun x hx i q hi hn=>?_⟩
     ·rw [atk_ne (by simp),atk_ne (by simp)];rw[show k+(o::rest).length=k+1+rest.length by simp;omega];exact e3
     ·rcases Nat.lt_or_ge k j with h1|h1
      ·obtain ⟨t1,t2⟩:=tr.step j q h1 hq;refine⟨t1,?_⟩;rw[ext (sk':=sk') h1,ext (sk':=sk') (by omega:k+1≤j+1),exth (hk':=hk') h1,exth (hk':=hk') (by omega:k+1≤j+1),vkE h1];exact t2
      ·have hjk:j=k:=(by omega);subst hjk;rw[hok]at hq;simp at hq;subst hq;refine⟨hdst,true,by rw[atk_self];exact hb,(fun hc=>by cases hc),fun _=>?_⟩;rw[ext (sk':=sk') (Nat.le_refl _),exth (hk':=hk') (Nat.le_refl _)];simp only[atk_self,e1,e2];exact⟨trivial,(doesR_of hw').2 hdo,(fun _=>trivial),fun hc=>by rw[hw']at hc;simp at hc⟩
     ·have hj':=gt j hj hwd;rw[exth (hk':=hk') (by omega:k+1≤j+1),exth (hk':=hk') hj'];rcases Nat.lt_or_ge k i with h1|h1
      ·rw [ext (sk':=sk') h1,vkE h1];exact tr.apart i j q h1 hj' (ndE i q h1 hn) (wdE j hj' hwd)
      ·have hik:i=k:=(by omega);subst hik;have hq:=hn.1;rw[hok]at hq;simp at hq;subst hq;refine⟨fun _=>?_,fun hlt=>by omega⟩;simp only[atk_self];exact hp _ (List.mem_cons_self ..) j hj' (wdE j hj' hwd)
     ·have hj':=gt j hj hwd;rw[exth (hk':=hk') (by omega:k+1≤j+1)];exact hp x (by simp[hx]) j hj' (wdE j hj' hwd)
     ·rcases Nat.lt_or_ge k i with h1|h1
      ·rw [ext (sk':=sk') h1,vkE h1];exact hh x hx i q h1 (ndE i q h1 hn)
      ·have hik:i=k:=(by omega);subst hik;have hq:=hn.1;rw[hok]at hq;simp at hq;subst hq;simp only[atk_self];exact hhist x hx
end
end Go.AM
namespace Go.AM
section
variable {P:Program}{ow:Nat→Bool}{wf:FuncId→Bool}{n:Nat}{ops:List Oper}{base:Nat}
structure DOk2(ow:Nat→Bool)(wf:FuncId→Bool)(ops:List Oper):Prop where
 back: ∀ (j:Nat)(o:Oper),ops[j]? =some o→ ∀ e∈o.after.toList,Region.binds .any e=true→e.on<j
 nosel: ∀ (j:Nat)(o:Oper),ops[j]? =some o→ ∀ cs b,o.op≠ .select cs b
 slot: ∀ (i j:Nat)(q o:Oper),i≠j→ops[i]? =some q→ops[j]? =some o→ ∀ d,q.dst=some d→d∈looks ops o→pre ops i j=true∨pre ops j i=true
 ww: ∀ (i j:Nat)(q o:Oper),i≠j→ops[i]? =some q→ops[j]? =some o→isW ow wf q=true→isW ow wf o=true→pre ops i j=true∨pre ops j i=true∨(i<j∧isAl o=true)∨(j<i∧isAl q=true)
theorem DOk2.of{ops:List Oper}(h:dOk2 ow wf ops=true):DOk2 ow wf ops:=by
 unfold dOk2 at h;rw[List.all_eq_true]at h;have hm: ∀ (j:Nat)(o:Oper),ops[j]? =some o→_:=fun j o ho=>h (o,j) (List.mem_zipIdx_iff_getElem?.2 ho);refine⟨fun j o ho e he hb=>?_,fun j o ho cs b hsel=>?_,fun i j q o hij hq ho d hd hl=>?_,fun i j q o hij hq ho h1 h2=>?_⟩
 ·have h0:=hm j o ho;simp only[Bool.and_eq_true,List.all_eq_true]at h0;have:=h0.1.1 e he;simpa[hb]using this
 ·have h0:=hm j o ho;simp only[Bool.and_eq_true]at h0;have:=h0.1.2;rw[hsel]at this;simp at this
 ·have h0:=hm j o ho;simp only[Bool.and_eq_true,List.all_eq_true]at h0;have:=h0.2 (q,i) (List.mem_zipIdx_iff_getElem?.2 hq);simp only[Bool.or_eq_true,Bool.and_eq_true,beq_iff_eq,hd,Bool.not_eq_true']at this;rcases this with h1|⟨h1,_⟩
  ·exact absurd h1 hij
  ·rcases h1 with(h1|h1)|h1
   ·rw [List.contains_iff_mem.2 hl]at h1;simp at h1
   ·exact .inl h1
   ·exact .inr h1
 ·have h0:=hm j o ho;simp only[Bool.and_eq_true,List.all_eq_true]at h0;have:=h0.2 (q,i) (List.mem_zipIdx_iff_getElem?.2 hq);simp only[Bool.or_eq_true,Bool.and_eq_true,beq_iff_eq,h1,h2,Bool.not_eq_true',Bool.and_self,Bool.true_eq_false,false_or,decide_eq_true_eq]at this;rcases this with h3|⟨_,h3⟩
  ·exact absurd h3 hij
  ·rcases h3 with((h3|h3)|h3)|h3
   ·exact .inl h3
   ·exact .inr (.inl h3)
   ·exact .inr (.inr (.inl h3))
   ·exact .inr (.inr (.inr h3))
theorem pre_lt2{ops:List Oper}(hd:DOk2 ow wf ops): ∀ (j i:Nat),j<ops.length→pre ops i j=true→i<j:=by
 intro j
 induction j using Nat.strongRecOn with
 |_ j ih=>
  intro i hj hp;obtain⟨e,h1,h2,h3⟩:=pre_spec (List.getElem?_eq_getElem hj) hp;have hlt:=hd.back j _ (List.getElem?_eq_getElem hj) e h1 h2;rcases h3 with rfl|⟨h4,h5⟩
  ·exact hlt
  ·exact Nat.lt_trans (ih e.on h4 i (by omega) h5) h4
variable {sk:Nat→Slots}{hk:Nat→Heap}{vk:Nat→PV}
theorem Tr2.slot_const(tr:Tr2 P ow wf n ops base 0 sk hk vk){t:Nat}{i:Nat}: ∀ d,i+d≤ops.length→(∀ j,i≤j→j<i+d→wrB ops t j=false)→sk (i+d) t=sk i t
 |0,_,_=>rfl
 |d+1,hd,hw=>by
  have ih:=Tr2.slot_const tr (t:=t) (i:=i) d (by omega) (fun j h1 h2=>hw j h1 (by omega));rw[← ih];have hlt:i+d<ops.length:=by omega
  obtain⟨_,b,h1,h2,h3⟩:=tr.step (i+d) ops[i+d] (Nat.zero_le _) (List.getElem?_eq_getElem hlt);have hnw:=hw (i+d) (by omega) (by omega);simp only[wrB,List.getElem?_eq_getElem hlt,Option.bind_some,decide_eq_false_iff_not]at hnw;have hupd: ∀ v,updO (sk (i+d)) ops[i+d].dst v t=sk (i+d) t:=by
   intro v;cases hdst:ops[i+d].dst with
   |none=>rfl
   |some dd=>
    simp only[updO,upd];rw[if_neg];intro e;subst e;exact hnw hdst
  rw[show i+(d+1)=i+d+1 by omega];cases b with
  |false=>rw[(h2 rfl).1];exact hupd _
  |true=>rw[(h3 rfl).1];exact hupd _
theorem Rdy.slot2(hd:DOk2 ow wf ops)(tr:Tr2 P ow wf n ops base 0 sk hk vk){S:Nat→Bool}{i:Nat}{o:Oper}(r:Rdy ops S i o){t:Nat}(ht:t∈looks ops o):valS ops sk S t=sk i t:=by
 have hi:i<ops.length:=(List.getElem?_eq_some_iff.1 r.at_).1;obtain⟨h1,h2,h3⟩:=lastOf_spec (fun j=>S j&&wrB ops t j) ops.length;unfold valS;generalize lastOf (fun j=>S j&&wrB ops t j) ops.length=m at*
 -- a writer of t that is not this operation comes before or behind it
 have ord: ∀ j,j<ops.length→j≠i→wrB ops t j=true→Go.AM.pre ops j i=true∨Go.AM.pre ops i j=true:=by
  intro j hj hne hw;simp only[wrB,List.getElem?_eq_getElem hj,Option.bind_some,decide_eq_true_eq]at hw;exact hd.slot j i _ o hne (List.getElem?_eq_getElem hj) r.at_ t hw ht
 rcases Nat.lt_or_ge i m with h4|h4
 ·-- a writer behind i has been done: none can be
  rcases h2 with h2|⟨k,h2,h5⟩
  ·omega
  ·simp only[Bool.and_eq_true]at h5;by_cases hki:k=i
   ·subst hki;rw[r.new]at h5;simp at h5
   ·rcases ord k (by omega) hki h5.2 with h6|h6
    ·have:=pre_lt2 hd i k hi h6;omega
    ·rw [r.not_pre (by omega) h5.1]at h6;simp at h6
 ·have:=tr.slot_const (t:=t) (i:=m) (i-m) (by omega) (fun j h5 h6=>?_)
  ·rw [show m+(i-m)=i by omega]at this;exact this.symm
  ·cases hw:wrB ops t j with
   |false=>rfl
   |true=>
    have hns:=h3 j h5 (by omega);rw[hw,Bool.and_true]at hns;rcases ord j (by omega) (by omega) hw with h7|h7
    ·rw [r.bef h7]at hns;simp at hns
    ·have:=pre_lt2 hd j i (by omega) h7;omega
theorem Rdy.next2(hd:DOk2 ow wf ops)(tr:Tr2 P ow wf n ops base 0 sk hk vk){S S':Nat→Bool}{i:Nat}{o:Oper}(r:Rdy ops S i o)(hs':S' i=true)(ho: ∀ j,j≠i→S' j=S j){x:PV}(hx:sk (i+1)=updO (sk i) o.dst x):
  updO (valS ops sk S) o.dst x=valS ops sk S':=by
 have hi:i<ops.length:=(List.getElem?_eq_some_iff.1 r.at_).1;funext t;have hwr:wrB ops t i=decide (o.dst=some t):=by simp[wrB,r.at_]
 by_cases ht:o.dst=some t
 ·have hl:t∈looks ops o:=by simp[looks,ht]
  have h1:updO (valS ops sk S) o.dst x t=x:=by rw[ht];simp[updO,upd]
  have h2:sk (i+1) t=x:=by rw[hx,ht];simp[updO,upd]
  rw[h1, ← h2];unfold valS;rw[lastOf_eq (m:=i+1) (by omega) (.inr ⟨i,rfl,by rw[hs',hwr];simp[ht]⟩)];intro j h3 h4;cases hw:wrB ops t j with
  |false=>simp
  |true=>
   cases hsj:S' j with
   |false=>simp
   |true=>
    rw[ho j (by omega)]at hsj;simp only[wrB,List.getElem?_eq_getElem h4,Option.bind_some,decide_eq_true_eq]at hw;rcases hd.slot j i _ o (by omega) (List.getElem?_eq_getElem h4) r.at_ t hw hl with h7|h7
    ·have:=pre_lt2 hd i j hi h7;omega
    ·rw [r.not_pre h4 hsj]at h7;simp at h7
 ·have h1:updO (valS ops sk S) o.dst x t=valS ops sk S t:=by
   cases hdst:o.dst with
   |none=>rfl
   |some d=>
    simp only[updO,upd];rw[if_neg];intro e;subst e;exact ht hdst
  rw[h1];unfold valS;rw[lastOf_congr ops.length (fun j hj=>?_)];by_cases hji:j=i
  ·subst hji;rw[hwr];simp[ht]
  ·rw [ho j hji]
def obR(P:Program)(ops:List Oper)(f:Nat):AObj:=match ops[f]? with
 |some o=>(match o.op with
  | .alloc t=>(match zeroT P t with
   |some zs=> .arr zs.length [zs.map .sc]
   |none=> .arr 0 [])
  |_=> .arr 0 [])
 |none=> .arr 0 []
def wfl(ow:Nat→Bool)(wf:FuncId→Bool)(ops:List Oper)(sk:Nat→Slots)(f:Nat):Bool:=wdB ow wf ops sk f&&alB ops f
def wnf(ow:Nat→Bool)(wf:FuncId→Bool)(ops:List Oper)(sk:Nat→Slots)(f:Nat):Bool:=wdB ow wf ops sk f&&!(alB ops f)
def MS(ow:Nat→Bool)(wf:FuncId→Bool)(ops:List Oper)(sk:Nat→Slots)(S:Nat→Bool):Nat:=lastOf (fun j=>S j&&wnf ow wf ops sk j) ops.length
def pS(ow:Nat→Bool)(wf:FuncId→Bool)(ops:List Oper)(sk:Nat→Slots)(S:Nat→Bool)(j f:Nat):Bool:=decide (j≤f)&&S f&&wfl ow wf ops sk f
def heapR(P:Program)(ow:Nat→Bool)(wf:FuncId→Bool)(ops:List Oper)(base:Nat)(sk:Nat→Slots)(hk:Nat→Heap)(S:Nat→Bool):Heap:=
 ovl (hk (MS ow wf ops sk S)) base (obR P ops) (pS ow wf ops sk S (MS ow wf ops sk S))
theorem wdB_lt{j:Nat}(h:wdB ow wf ops sk j=true):j<ops.length:=by
 obtain⟨o,ho,_⟩:=wdB_iff.1 h;exact(List.getElem?_eq_some_iff.1 ho).1
theorem wfl_lt{j:Nat}(h:wfl ow wf ops sk j=true):j<ops.length:=by
 unfold wfl at h;simp only[Bool.and_eq_true]at h;exact wdB_lt h.1
theorem Tr2.constH(tr:Tr2 P ow wf n ops base 0 sk hk vk){j:Nat}(hj:j<ops.length)(hw:wdB ow wf ops sk j=false):hk (j+1)=hk j:=by
 obtain⟨_,b,h1,h2,h3⟩:=tr.step j ops[j] (Nat.zero_le _) (List.getElem?_eq_getElem hj);cases b with
 |false=>exact(h2 rfl).2
 |true=>
  refine(h3 rfl).2.2.1 ?_;cases hiw:isW ow wf ops[j]with
  |false=>rfl
  |true=>
   have:wdB ow wf ops sk j=true:=wdB_iff.2 ⟨_,List.getElem?_eq_getElem hj,hiw,h1⟩;rw[hw]at this;simp at this
theorem Tr2.stepF(tr:Tr2 P ow wf n ops base 0 sk hk vk){j:Nat}(hw:wfl ow wf ops sk j=true):
  ∃ o t zs,ops[j]? =some o∧o.op= .alloc t∧zeroT P t=some zs∧0<zs.length∧obR P ops j= .arr zs.length [zs.map .sc]∧vk j= .ptr (base+j) 0 0∧hk (j+1)=(hk j).set (base+j) (obR P ops j):=by
 unfold wfl at hw;simp only[Bool.and_eq_true]at hw;obtain⟨o,ho,hiw,hwt⟩:=wdB_iff.1 hw.1;have hal:=hw.2;unfold alB at hal;rw[ho]at hal;simp only[isAl]at hal;split at hal
 case h_2=>simp at hal
 rename_i t hop;obtain⟨_,b,h1,_,h3⟩:=tr.step j o (Nat.zero_le _) ho;rw[hwt]at h1;simp at h1;subst h1;have hd:=(h3 rfl).2.1;unfold DoesR at hd;rw[hop]at hd;simp only at hd;obtain⟨zs,hz,hpos,hv,hh⟩:=hd;have hob:obR P ops j= .arr zs.length [zs.map .sc]:=by unfold obR;rw[ho];simp only[hop,hz]
 exact⟨o,t,zs,ho,hop,hz,hpos,hob,hv,by rw[hob];exact hh⟩
theorem Tr2.noneH(tr:Tr2 P ow wf n ops base 0 sk hk vk)(h0: ∀ f,alB ops f=true→(hk 0).obj (base+f)=none): ∀ j,j≤ops.length→ ∀ f,j≤f→alB ops f=true→(hk j).obj (base+f)=none
 |0,_,f,_,hf=>h0 f hf
 |j+1,hj,f,hle,hf=>by
  cases hw:wdB ow wf ops sk j with
  |false=>rw[tr.constH (by omega) hw];exact Tr2.noneH tr h0 j (by omega) f (by omega) hf
  |true=>
   obtain⟨o,ho,hiw,hwt⟩:=wdB_iff.1 hw;obtain⟨_,b,h1,_,h3⟩:=tr.step j o (Nat.zero_le _) ho;rw[hwt]at h1;simp at h1;subst h1;exact(h3 rfl).2.2.2 hiw f (by omega) hf
theorem Tr2.seg(tr:Tr2 P ow wf n ops base 0 sk hk vk){M:Nat}: ∀ d,M+d≤ops.length→(∀ j,M≤j→j<M+d→wnf ow wf ops sk j=false)→
  hk (M+d)=ovl (hk M) base (obR P ops) (fun f=>decide (M≤f)&&decide (f<M+d)&&wfl ow wf ops sk f)
 |0,_,_=>by
  rw[ovl_none (fun f=>?_)]
  ·rfl
  ·by_cases h:M≤f
   ·have:¬ f<M+0:=(by omega);simp only[this,decide_false,Bool.and_false,Bool.false_and]
   ·simp [h]
 |d+1,hd,hn=>by
  have ih:=Tr2.seg tr d (by omega) (fun j h1 h2=>hn j h1 (by omega));cases hw:wfl ow wf ops sk (M+d)with
  |true=>
   obtain⟨_,_,_,_,_,_,_,_,_,hh⟩:=tr.stepF hw;rw[show M+(d+1)=M+d+1 by omega,hh,ih];refine(ovl_set (p:=fun f=>decide (M≤f)&&decide (f<M+d)&&wfl ow wf ops sk f) ?_ (fun f hf=>?_)).symm
   ·simp [hw]
   ·rw [show decide (f<M+d+1)=decide (f<M+d) by simp;omega]
  |false=>
   have hnw:=hn (M+d) (by omega) (by omega);have hwd:wdB ow wf ops sk (M+d)=false:=by
    unfold wfl at hw;unfold wnf at hnw;cases hx:wdB ow wf ops sk (M+d)with
    |false=>rfl
    |true=>rw[hx]at hw hnw;simp at hw hnw;rw[hw]at hnw;simp at hnw
   rw[show M+(d+1)=M+d+1 by omega,tr.constH (by omega) hwd,ih];refine ovl_congr fun f=>?_;by_cases hf:f=M+d
   ·subst hf;simp[hw]
   ·rw [show decide (f<M+d+1)=decide (f<M+d) by simp;omega]
theorem Tr2.heap_at(tr:Tr2 P ow wf n ops base 0 sk hk vk){S:Nat→Bool}{j:Nat}(h1:MS ow wf ops sk S≤j)(h2:j≤ops.length)(h3: ∀ i,MS ow wf ops sk S≤i→i<j→wnf ow wf ops sk i=false)(h4: ∀ f,MS ow wf ops sk S≤f→f<j→wfl ow wf ops sk f=true→S f=true):
  heapR P ow wf ops base sk hk S=ovl (hk j) base (obR P ops) (pS ow wf ops sk S j):=by
 unfold heapR;generalize MS ow wf ops sk S=M at*;obtain⟨d,rfl⟩: ∃ d,j=M+d:=⟨j-M,by omega⟩;rw[tr.seg d h2 h3];refine heap_ext rfl fun id=>?_;simp only[ovl];by_cases hb:base≤id
 ·generalize id-base=f;simp only[hb,true_and];unfold pS;by_cases c1:M≤f
  ·by_cases c2:f<M+d
   ·have:¬ M+d≤f:=(by omega);cases hw:wfl ow wf ops sk f with
    |false=>simp
    |true=>simp[c1,c2,this,h4 f c1 c2 hw]
   ·have:M+d≤f:=(by omega);simp[c1,c2,this]
  ·have:¬ M+d≤f:=(by omega);simp[c1,this]
 ·simp [hb]
theorem Rdy.nf(hd:DOk2 ow wf ops){S:Nat→Bool}{i:Nat}{o:Oper}(r:Rdy ops S i o)(hw:wdB ow wf ops sk i=true):MS ow wf ops sk S≤i:=by
 obtain⟨h1,h2,h3⟩:=lastOf_spec (fun j=>S j&&wnf ow wf ops sk j) ops.length;unfold MS;generalize lastOf (fun j=>S j&&wnf ow wf ops sk j) ops.length=m at*;rcases h2 with h2|⟨k,h2,h5⟩
 ·omega
 ·simp only[Bool.and_eq_true]at h5;rcases Nat.lt_or_ge i m with h4|h4
  ·have hki:k≠i:=(by intro e;subst e;rw[r.new]at h5;simp at h5);have h6:=h5.2;unfold wnf at h6;simp only[Bool.and_eq_true,Bool.not_eq_true']at h6;obtain⟨q,hq,hqw,_⟩:=wdB_iff.1 h6.1;obtain⟨q',hq',hqw',_⟩:=wdB_iff.1 hw;rw[r.at_]at hq';simp at hq';subst hq';have hal:isAl q=false:=(by have:=h6.2;unfold alB at this;rw[hq]at this;exact this);have hi:i<ops.length:=(List.getElem?_eq_some_iff.1 r.at_).1;rcases hd.ww k i q o hki hq r.at_ hqw hqw' with h7|h7|h7|h7
   ·have:=pre_lt2 hd i k hi h7;omega
   ·rw [r.not_pre (by omega) h5.1]at h7;simp at h7
   ·omega
   ·rw [hal]at h7;simp at h7
  ·exact h4
theorem MS_spec{S:Nat→Bool}{j:Nat}(h1:MS ow wf ops sk S≤j)(h2:j<ops.length)(h3:S j=true):wnf ow wf ops sk j=false:=by
 have:=(lastOf_spec (fun j=>S j&&wnf ow wf ops sk j) ops.length).2.2 j h1 h2;simpa[h3]using this
theorem MS_same{S S':Nat→Bool}{i:Nat}(hw:wnf ow wf ops sk i=false)(ho: ∀ j,j≠i→S' j=S j):MS ow wf ops sk S'=MS ow wf ops sk S:=by
 unfold MS;refine lastOf_congr ops.length fun j hj=>?_;by_cases hji:j=i
 ·subst hji;simp[hw]
 ·rw [ho j hji]
theorem heapR_same{S S':Nat→Bool}{i:Nat}(hw:wdB ow wf ops sk i=false)(ho: ∀ j,j≠i→S' j=S j):heapR P ow wf ops base sk hk S'=heapR P ow wf ops base sk hk S:=by
 have hn:wnf ow wf ops sk i=false:=by unfold wnf;rw[hw];try rfl
 have hf:wfl ow wf ops sk i=false:=by unfold wfl;rw[hw];try rfl
 unfold heapR;rw[MS_same hn ho];refine ovl_congr fun f=>?_;unfold pS;by_cases hfi:f=i
 ·subst hfi;simp[hf]
 ·rw [ho f hfi]
theorem Rdy.doesW(hd:DOk2 ow wf ops)(tr:Tr2 P ow wf n ops base 0 sk hk vk){S:Nat→Bool}{i:Nat}{o:Oper}(r:Rdy ops S i o)(hw:wnf ow wf ops sk i=true):
  heapR P ow wf ops base sk hk S=ovl (hk i) base (obR P ops) (pS ow wf ops sk S i):=by
 have hw0:=hw;unfold wnf at hw;simp only[Bool.and_eq_true,Bool.not_eq_true']at hw;obtain⟨q',hq',hqw',_⟩:=wdB_iff.1 hw.1;rw[r.at_]at hq';simp at hq';subst hq';have hal:isAl o=false:=by have:=hw.2;unfold alB at this;rw[r.at_]at this;exact this
 have hi:i<ops.length:=(List.getElem?_eq_some_iff.1 r.at_).1;have key: ∀ j,j<i→wdB ow wf ops sk j=true→S j=true:=by
  intro j hj hwj;obtain⟨q,hq,hqw,_⟩:=wdB_iff.1 hwj;rcases hd.ww j i q o (by omega) hq r.at_ hqw hqw' with h7|h7|h7|h7
  ·exact r.bef h7
  ·have:=pre_lt2 hd j i (by omega) h7;omega
  ·rw [hal]at h7;simp at h7
  ·omega
 refine tr.heap_at (r.nf hd hw.1) (by omega) (fun j h1 h2=>?_) (fun f h1 h2 h3=>?_)
 ·cases hx:wnf ow wf ops sk j with
  |false=>rfl
  |true=>
   have hx':=hx;unfold wnf at hx';simp only[Bool.and_eq_true]at hx';rw[MS_spec h1 (by omega) (key j h2 hx'.1)]at hx;simp at hx
 ·unfold wfl at h3;simp only[Bool.and_eq_true]at h3;exact key f h2 h3.1
theorem Rdy.nextW(hd:DOk2 ow wf ops){S S':Nat→Bool}{i:Nat}{o:Oper}(r:Rdy ops S i o)(hw:wnf ow wf ops sk i=true)(hs':S' i=true)(ho: ∀ j,j≠i→S' j=S j):
  heapR P ow wf ops base sk hk S'=ovl (hk (i+1)) base (obR P ops) (pS ow wf ops sk S i):=by
 have hi:i<ops.length:=(List.getElem?_eq_some_iff.1 r.at_).1;have hw':=hw;unfold wnf at hw';simp only[Bool.and_eq_true,Bool.not_eq_true']at hw';have hM:MS ow wf ops sk S'=i+1:=by
  unfold MS;refine lastOf_eq (by omega) (.inr ⟨i,rfl,by rw[hs',hw];try rfl⟩) fun j h1 h2=>?_;cases hsj:S' j with
  |false=>rfl
  |true=>
   rw[ho j (by omega)]at hsj;have:=MS_spec (ow:=ow) (wf:=wf) (sk:=sk) (by have:=r.nf (sk:=sk) hd hw'.1;omega) h2 hsj;simp[this]
 unfold heapR;rw[hM];refine ovl_congr fun f=>?_;unfold pS;have hf:wfl ow wf ops sk i=false:=by unfold wfl;rw[hw'.2];simp
 by_cases hfi:f=i
 ·subst hfi;simp[hf]
 ·rw [ho f hfi,show decide (i+1≤f)=decide (i≤f) by simp;omega]
theorem Rdy.nextF(hd:DOk2 ow wf ops)(tr:Tr2 P ow wf n ops base 0 sk hk vk)(h0: ∀ f,alB ops f=true→(hk 0).obj (base+f)=none){S S':Nat→Bool}{i:Nat}{o:Oper}(r:Rdy ops S i o)(hw:wfl ow wf ops sk i=true)(hs':S' i=true)(ho: ∀ j,j≠i→S' j=S j):
  heapR P ow wf ops base sk hk S'=(heapR P ow wf ops base sk hk S).set (base+i) (obR P ops i)∧(heapR P ow wf ops base sk hk S).obj (base+i)=none:=by
 have hi:i<ops.length:=(List.getElem?_eq_some_iff.1 r.at_).1;have hw':=hw;unfold wfl at hw';simp only[Bool.and_eq_true]at hw';have hn:wnf ow wf ops sk i=false:=by unfold wnf;rw[hw'.2];simp
 have hM:=r.nf (sk:=sk) hd hw'.1;constructor
 ·unfold heapR;rw[MS_same hn ho];refine ovl_set ?_ fun f hf=>?_
  ·simp [pS,hM,hs',hw]
  ·unfold pS;rw[ho f hf]
 ·unfold heapR;simp only[ovl];rw[if_neg (by rw[show base+i-base=i by omega];simp[pS,r.new])];exact tr.noneH h0 _ (by omega) i hM hw'.2
theorem Rdy.doesN(hd:DOk2 ow wf ops)(tr:Tr2 P ow wf n ops base 0 sk hk vk){S:Nat→Bool}{i:Nat}{o:Oper}(r:Rdy ops S i o)(hiw:isW ow wf o=false)(hw:wantedB ops (sk i) o=some true):
  ∃ j,j≤ops.length∧MS ow wf ops sk S≤j∧heapR P ow wf ops base sk hk S=ovl (hk j) base (obR P ops) (pS ow wf ops sk S j)∧Does P ow o (pev (sk i)) (hk j) (vk i) (hk j):=by
 have hi:i<ops.length:=(List.getElem?_eq_some_iff.1 r.at_).1;have hN:Nd ow wf ops sk i o:=⟨r.at_,hiw,hw⟩;have hwi:wdB ow wf ops sk i=false:=by
  cases hx:wdB ow wf ops sk i with
  |false=>rfl
  |true=>
   obtain⟨q,hq,hqw,_⟩:=wdB_iff.1 hx;rw[r.at_]at hq;simp at hq;subst hq;rw[hiw]at hqw;simp at hqw
 obtain⟨_,b,h1,_,h3⟩:=tr.step i o (Nat.zero_le _) r.at_;rw[hw]at h1;simp at h1;subst h1;have hdo:=(doesR_of hiw).1 (h3 rfl).2.1;rw[(h3 rfl).2.2.1 hiw]at hdo;have hMl:MS ow wf ops sk S≤ops.length:=(lastOf_spec _ _).1;rcases Nat.lt_or_ge i (MS ow wf ops sk S)with h4|h4
 ·rcases (lastOf_spec (fun j=>S j&&wnf ow wf ops sk j) ops.length).2.1 with h5|⟨k,h5,h6⟩
  ·unfold MS at h4;omega
  ·simp only[Bool.and_eq_true]at h6;have hk':MS ow wf ops sk S=k+1:=h5;have hwk:wdB ow wf ops sk k=true:=(by have:=h6.2;unfold wnf at this;simp only[Bool.and_eq_true]at this;exact this.1);have hki:k≠i:=(by intro e;subst e;rw[hwi]at hwk;simp at hwk);refine⟨k+1,by omega,by omega,?_,?_⟩
   ·have:=tr.heap_at (S:=S) (j:=k+1) (by omega) (by omega) (fun j a c=>by omega) (fun f a c=>by omega);exact this
   ·rcases (tr.apart i k o (Nat.zero_le _) (Nat.zero_le _) hN (wdB_iff.1 hwk)).1 (by omega)with h7|h7
    ·rw [r.not_pre (by omega) h6.1]at h7;simp at h7
    ·exact h7
 ·have hex:(∀ j,MS ow wf ops sk S≤j→j<i→wdB ow wf ops sk j=true→S j=true)∨ ∃ j,MS ow wf ops sk S≤j∧j<i∧wdB ow wf ops sk j=true∧S j=false∧ ∀ l,MS ow wf ops sk S≤l→l<j→wdB ow wf ops sk l=true→S l=true:=by
   have: ∀ d,(∀ j,MS ow wf ops sk S≤j→j<MS ow wf ops sk S+d→wdB ow wf ops sk j=true→S j=true)∨ ∃ j,MS ow wf ops sk S≤j∧j<MS ow wf ops sk S+d∧wdB ow wf ops sk j=true∧S j=false∧ ∀ l,MS ow wf ops sk S≤l→l<j→wdB ow wf ops sk l=true→S l=true:=by
    intro d
    induction d with
    |zero=>left;intro j a b;omega
    |succ d ih=>
     rcases ih with ih|⟨j,g1,g2,g3⟩
     ·by_cases hx:wdB ow wf ops sk (MS ow wf ops sk S+d)=true∧S (MS ow wf ops sk S+d)=false
      ·exact .inr ⟨_,by omega,by omega,hx.1,hx.2,ih⟩
      ·left;intro j a b hj;rcases Nat.lt_or_ge j (MS ow wf ops sk S+d)with c|c
       ·exact ih j a c hj
       ·have:j=MS ow wf ops sk S+d:=(by omega);subst this;cases hs:S (MS ow wf ops sk S+d)with
        |true=>rfl
        |false=>exact(hx ⟨hj,hs⟩).elim
     ·exact .inr ⟨j,g1,by omega,g3⟩
   have:=this (i-MS ow wf ops sk S)
   rwa [show MS ow wf ops sk S+(i-MS ow wf ops sk S)=i by omega]at this
  have fromAll: ∀ j,j≤ops.length→MS ow wf ops sk S≤j→(∀ l,MS ow wf ops sk S≤l→l<j→wdB ow wf ops sk l=true→S l=true)→heapR P ow wf ops base sk hk S=ovl (hk j) base (obR P ops) (pS ow wf ops sk S j):=by
   intro j hj hM hall;refine tr.heap_at hM hj (fun l a c=>?_) (fun f a c hf=>?_)
   ·cases hx:wnf ow wf ops sk l with
    |false=>rfl
    |true=>
     have hx':=hx;unfold wnf at hx';simp only[Bool.and_eq_true]at hx';rw[MS_spec a (by omega) (hall l a c hx'.1)]at hx;simp at hx
   ·unfold wfl at hf;simp only[Bool.and_eq_true]at hf;exact hall f a c hf.1
  rcases hex with hall|⟨j,g1,g2,g3,g4,g5⟩
  ·exact ⟨i,by omega,h4,fromAll i (by omega) h4 hall,hdo⟩
  ·refine ⟨j,by omega,g1,fromAll j (by omega) g1 g5,?_⟩;rcases(tr.apart i j o (Nat.zero_le _) (Nat.zero_le _) hN (wdB_iff.1 g3)).2 g2 with h7|h7
   ·rw [r.bef h7]at g4;simp at g4
   ·exact h7
end
end Go.AM
namespace Go.AM
section
variable {P:Program}{ow:Nat→Bool}{wf:FuncId→Bool}{n:Nat}{ops:List Oper}{base:Nat}{sk:Nat→Slots}{hk:Nat→Heap}{vk:Nat→PV}
theorem pS_cut{S:Nat→Bool}{j:Nat}{H:Heap}{ob:Nat→AObj}:ovl H base ob (pS ow wf ops sk S j)=ovl H base ob (fun f=>decide (f<ops.length)&&pS ow wf ops sk S j f):=ovl_congr fun f=>by
 by_cases hf:f<ops.length
 ·simp [hf]
 ·have:wfl ow wf ops sk f=false:=by
   cases hx:wfl ow wf ops sk f with
   |false=>rfl
   |true=>exact(hf (wfl_lt hx)).elim
  simp[pS,this]
theorem any_sound2(hd:DOk2 ow wf ops)(tr:Tr2 P ow wf n ops base 0 sk hk vk)(h0: ∀ f,alB ops f=true→(hk 0).obj (base+f)=none){K:Slots→Heap→Prop}(hK:K (sk ops.length) (hk ops.length)){β0:Env}{hb:Heap}{w0:World}(hbn:hb.next≤base){Q:Exit→Act→World→Prop}
  (hk': ∀ a' w',To n β0 hb w0 K a' w'→Q .normal a' w'):
  ∀ (fuel:Nat)(listed:Array Bool)(β:Env)(a:Act)(w:World),listed.size=ops.length→Closed ops (fun j=>listed.getD j false)→miss (fun j=>listed.getD j false) ops.length≤fuel→
   St n β (valS ops sk fun j=>listed.getD j false) (heapR P ow wf ops base sk hk fun j=>listed.getD j false) a w→
   Ext β0 hb w0 β (heapR P ow wf ops base sk hk fun j=>listed.getD j false) w→
   base+ops.length≤(heapR P ow wf ops base sk hk fun j=>listed.getD j false).next→
   (∀ f,f<ops.length→listed.getD f false=false→(β (base+f)).b=none)→wpAny P .any ops.toArray Q fuel listed a w:=by
 have fin: ∀ (listed:Array Bool)(β:Env)(a:Act)(w:World),(∀ j,j<ops.length→listed.getD j false=true)→
   St n β (valS ops sk fun j=>listed.getD j false) (heapR P ow wf ops base sk hk fun j=>listed.getD j false) a w→
   Ext β0 hb w0 β (heapR P ow wf ops base sk hk fun j=>listed.getD j false) w→Q .normal a w:=by
  intro listed β a w hall st ex;have e1:valS ops sk (fun j=>listed.getD j false)=sk ops.length:=by
   funext t;obtain⟨h1,h2,h3⟩:=lastOf_spec (fun j=>listed.getD j false&&wrB ops t j) ops.length;unfold valS;generalize lastOf (fun j=>listed.getD j false&&wrB ops t j) ops.length=m at*;have:=tr.slot_const (t:=t) (i:=m) (ops.length-m) (by omega) (fun j h5 h6=>by
    have:=h3 j h5 (by omega);rw[hall j (by omega),Bool.true_and]at this;exact this)
   rw[show m+(ops.length-m)=ops.length by omega]at this;exact this.symm
  have e2:heapR P ow wf ops base sk hk (fun j=>listed.getD j false)=hk ops.length:=by
   rw[tr.heap_at (S:=fun j=>listed.getD j false) (j:=ops.length) (lastOf_spec _ _).1 (Nat.le_refl _) (fun i a c=>MS_spec a c (hall i c)) (fun f a c _=>hall f c)];refine ovl_none fun f=>?_;by_cases hf:ops.length≤f
   ·have:wfl ow wf ops sk f=false:=by
     cases hx:wfl ow wf ops sk f with
     |false=>rfl
     |true=>have:=wfl_lt hx;omega
    simp[pS,this]
   ·simp [pS,hf]
  rw[e1,e2]at st;rw[e2]at ex;exact hk' a w ⟨_,_,β,hK,st,ex⟩
 have rdy: ∀ (listed:Array Bool)(i:Nat),listed.size=ops.length→Closed ops (fun j=>listed.getD j false)→i∈Region.ready .any ops.toArray listed→ ∃ o,Rdy ops (fun j=>listed.getD j false) i o:=by
  intro listed i hsz hc hi;simp only[Region.ready,List.mem_filter,List.mem_range,List.size_toArray,Bool.and_eq_true,Bool.not_eq_true',List.getElem?_toArray]at hi;obtain⟨h1,h2,h3⟩:=hi;rw[List.getElem?_eq_getElem h1]at h3;simp only[Option.map_some,Option.getD_some,Array.all_eq_true_iff_forall_mem,Bool.or_eq_true,Bool.not_eq_true']at h3;refine⟨_,List.getElem?_eq_getElem h1,?_,hc,fun e he hb=>?_⟩
  ·rw [Array.getD_eq_getD_getElem?,Array.getElem?_eq_getElem (by omega)]at h2⊢;simpa using h2
  ·rcases h3 e (Array.mem_toList_iff.1 he)with h4|h4
   ·rw [hb]at h4;simp at h4
   ·exact h4
 have noRdy: ∀ (listed:Array Bool),listed.size=ops.length→Region.ready .any ops.toArray listed=[]→ ∀ j,j<ops.length→listed.getD j false=true:=by
  intro listed hsz hr j
  induction j using Nat.strongRecOn with
  |_ j ih=>
   intro hj;cases hs:listed.getD j false with
   |true=>rfl
   |false=>
    have hm:j∈Region.ready .any ops.toArray listed:=by
     simp only[Region.ready,List.mem_filter,List.mem_range,List.size_toArray,Bool.and_eq_true,Bool.not_eq_true',List.getElem?_toArray];refine⟨hj,?_,?_⟩
     ·rw [Array.getD_eq_getD_getElem?,Array.getElem?_eq_getElem (by omega)]at hs⊢;simpa using hs
     ·rw [List.getElem?_eq_getElem hj];simp only[Option.map_some,Option.getD_some,Array.all_eq_true_iff_forall_mem,Bool.or_eq_true,Bool.not_eq_true'];intro e he;cases hb:Region.binds .any e with
      |false=>exact .inl rfl
      |true=>
       have hlt:=hd.back j _ (List.getElem?_eq_getElem hj) e (Array.mem_toList_iff.2 he) hb;exact .inr (ih e.on hlt (by omega))
    rw[hr]at hm;simp at hm
 intro fuel
 induction fuel with
 |zero=>
  intro listed β a w hsz hc hm st ex hnx hho;have hall:=all_of_miss (S:=fun j=>listed.getD j false) ops.length (by omega);refine⟨?_,fin listed β a w hall st ex⟩;apply List.eq_nil_iff_forall_not_mem.2;intro i hi;obtain⟨o,r⟩:=rdy listed i hsz hc hi;have:=hall i (List.getElem?_eq_some_iff.1 r.at_).1;have hn:=r.new;rw[this]at hn;simp at hn
 |succ fuel ih=>
  intro listed β a w hsz hc hm st ex hnx hho;refine⟨fun hr=>fin listed β a w (noRdy listed hsz hr) st ex,fun i hi=>?_⟩;obtain⟨o,r⟩:=rdy listed i hsz hc hi;have hil:i<ops.length:=(List.getElem?_eq_some_iff.1 r.at_).1;have hs':(listed.setIfInBounds i true).getD i false=true:=by
   rw[Array.getD_eq_getD_getElem?,Array.getElem?_setIfInBounds_self_of_lt (by omega)];try rfl
  have ho: ∀ j,j≠i→(listed.setIfInBounds i true).getD j false=listed.getD j false:=by
   intro j hj;rw[Array.getD_eq_getD_getElem?,Array.getElem?_setIfInBounds_ne (Ne.symm hj), ← Array.getD_eq_getD_getElem?]
  have hc':Closed ops (fun j=>(listed.setIfInBounds i true).getD j false):=by
   intro j q hq hj e he hb;by_cases heq:e.on=i
   ·simp only[heq];exact hs'
   ·simp only;rw[ho _ heq];by_cases hji:j=i
    ·subst hji;have:=r.at_;rw[hq]at this;simp at this;subst this;exact r.before e he hb
    ·simp only at hj;rw[ho j hji]at hj;exact hc j q hq hj e he hb
  have hm':miss (fun j=>(listed.setIfInBounds i true).getD j false) ops.length≤fuel:=by
   have:=miss_set (S:=fun j=>listed.getD j false) (S':=fun j=>(listed.setIfInBounds i true).getD j false) r.new hs' (fun j hj=>(ho j hj).symm) ops.length hil;omega
  obtain⟨hdst,b,hb,hb1,hb2⟩:=tr.step i o (Nat.zero_le _) r.at_;have hlook: ∀ t,t∈looks ops o→valS ops sk (fun j=>listed.getD j false) t=sk i t:=fun t ht=>r.slot2 hd tr ht;have hwant:=wanted_sound st (o:=o) (ops:=ops) (by rw[wantedB_congr hlook];exact hb);have hnext:=fun{x:PV}(hx:sk (i+1)=updO (sk i) o.dst x)=>r.next2 (S':=fun j=>(listed.setIfInBounds i true).getD j false) hd tr hs' ho hx;have ho2: ∀ j,j≠i→(fun j=>(listed.setIfInBounds i true).getD j false) j=(fun j=>listed.getD j false) j:=ho;have hho': ∀ f,f<ops.length→(listed.setIfInBounds i true).getD f false=false→f≠i∧(β (base+f)).b=none:=by
   intro f hf hfs;by_cases hfi:f=i
   ·rw [hfi,hs']at hfs;simp at hfs
   ·exact ⟨hfi,hho f hf (by rw[← ho f hfi];exact hfs)⟩
  unfold wpOp;simp only[List.getElem?_toArray,r.at_];rw[hwant];cases b with
  |false=>
   obtain⟨e1,e2⟩:=hb1 rfl;simp only[Bool.false_eq_true,if_false];have st':=st.undef (d:=o.dst) hdst;rw[hnext e1]at st';have hwdf:wdB ow wf ops sk i=false:=by
    cases hx:wdB ow wf ops sk i with
    |false=>rfl
    |true=>
     obtain⟨q,hq,_,hqw⟩:=wdB_iff.1 hx;rw[r.at_]at hq;simp at hq;subst hq;rw[hb]at hqw;simp at hqw
   have eh:=heapR_same (P:=P) (base:=base) (hk:=hk) hwdf ho2;exact ih _ β _ w (by simpa using hsz) hc' hm' (by rw[eh];exact st') (by rw[eh];exact ex) (by rw[eh];exact hnx) (fun f hf hfs=>(hho' f hf hfs).2)
  |true=>
   obtain⟨e1,e2,e3⟩:=hb2 rfl;simp only[if_true];left;have hops: ∀ t,.tmp t∈o.op.operands→sk i t=valS ops sk (fun j=>listed.getD j false) t:=fun t ht=>(hlook t (by
    simp only[looks,List.mem_append,List.mem_filterMap];exact .inl (.inl ⟨.tmp t,Array.mem_toList_iff.2 ht,rfl⟩))).symm
   have pOk: ∀ j,j≤ops.length→ ∀ f,pS ow wf ops sk (fun j=>listed.getD j false) j f=true→(hk j).obj (base+f)=none∧f<ops.length∧ ∃ z rows,obR P ops f= .arr z rows∧rows≠[]:=by
    intro j hj f hf;unfold pS at hf;simp only[Bool.and_eq_true,decide_eq_true_eq]at hf;have hfl:=hf.2;obtain⟨_,_,zs,_,_,_,_,hob,_⟩:=tr.stepF hfl;have hal:alB ops f=true:=(by unfold wfl at hfl;simp only[Bool.and_eq_true]at hfl;exact hfl.2);exact⟨tr.noneH h0 j hj f hf.1.1 hal,wfl_lt hf.2,_,_,hob,by simp⟩
   cases hiw:isW ow wf o with
   |true=>
    have hwd:wdB ow wf ops sk i=true:=wdB_iff.2 ⟨o,r.at_,hiw,hb⟩;cases hal:alB ops i with
    |true=>
     have hwf:wfl ow wf ops sk i=true:=(by unfold wfl;rw[hwd,hal];try rfl);obtain⟨q,t,zs,hq,hop,hz,hpos,hob,hv,_⟩:=tr.stepF hwf;rw[r.at_]at hq;simp at hq;subst hq;obtain⟨eh,hno⟩:=r.nextF (P:=P) (base:=base) (hk:=hk) hd tr h0 hwf hs' ho2;rw[hv]at e1;refine St.float (P:=P) hz (show base+i<_ by omega) hno (hho i hil r.new) st hop hdst fun β' a' w' st' hbeta hos htape hout hsize hX hmem hfz=>?_;rw[hnext e1, ← hob, ← eh]at st';have hrn:(heapR P ow wf ops base sk hk fun j=>(listed.setIfInBounds i true).getD j false).next=(heapR P ow wf ops base sk hk fun j=>listed.getD j false).next:=by rw[eh];try rfl
     refine ih _ β' a' w' (by simpa using hsz) hc' hm' st' ?_ (by rw[hrn];exact hnx) (fun f hf hfs=>?_)
     ·refine ⟨hos.trans ex.os,htape.trans ex.tape,hout.1.trans ex.output,Nat.le_trans ex.size hsize,by rw[hrn];exact ex.next,fun id hid=>?_,hX.trans ex.X,fun c hc hl=>?_,fun c hc=>?_,Nat.le_trans ex.drawn hout.2⟩
      ·rw [hbeta id (by omega)];exact ex.beta id hid
      ·rw [hmem c (Nat.lt_of_lt_of_le hl ex.size)];exact ex.xh c hc hl
      ·obtain ⟨g1,g2⟩:=ex.fz c hc;refine⟨?_,by rw[hmem c g1.1];exact g2⟩;have:=hfz c g1;rw[← hob, ← eh]at this;exact this
     ·obtain ⟨g1,g2⟩:=hho' f hf hfs;rw[hbeta _ (by omega)];exact g2
    |false=>
     have hwn:wnf ow wf ops sk i=true:=(by unfold wnf;rw[hwd,hal];try rfl);have hdo:Does P ow o (pev (sk i)) (hk i) (vk i) (hk (i+1)):=by
      have:=e2;unfold DoesR at this;split at this
      ·rename_i t hop;unfold alB at hal;rw[r.at_]at hal;simp[isAl,hop]at hal
      ·exact this
     have eS:=r.doesW (P:=P) (base:=base) hd tr hwn;have eS':=r.nextW (P:=P) (base:=base) (hk:=hk) hd hwn hs' ho2;rw[eS,pS_cut]at st;have hnn:(hk i).next=(heapR P ow wf ops base sk hk fun j=>listed.getD j false).next:=by rw[eS];try rfl
     obtain⟨βX,stX,back⟩:=St.hides (fun f hf=>by
      obtain⟨g1,g2,g3⟩:=pOk i (by omega) f hf;exact⟨by rw[hnn];omega,g1,g3⟩) ops.length st
     refine Does.wp stX hdst (Does_congr hops hdo) (fun a' w' ht=>?_);obtain⟨s',h',β',⟨rfl,rfl⟩,st',ex'⟩:=ht;obtain⟨β'',st'',ex''⟩:=back β' _ _ a' w' st' ex' (fun f hf=>by
      unfold pS at hf;simp only[Bool.and_eq_true,decide_eq_true_eq]at hf;have hal':alB ops f=true:=(by have h9:=hf.2;unfold wfl at h9;simp only[Bool.and_eq_true]at h9;exact h9.2);have hfi:f≠i:=(by intro e;subst e;rw[hal]at hal';simp at hal');exact tr.noneH h0 (i+1) (by omega) f (by omega) hal')
     rw[hnext e1, ← pS_cut, ← eS']at st'';rw[← pS_cut, ← pS_cut, ← eS', ← eS]at ex'';refine ih _ β'' a' w' (by simpa using hsz) hc' hm' st'' (ex.trans ex'') (Nat.le_trans hnx ex''.next) (fun f hf hfs=>?_);rw[ex''.beta _ (by omega)];exact(hho' f hf hfs).2
   |false=>
    have hwd:wdB ow wf ops sk i=false:=by
     cases hx:wdB ow wf ops sk i with
     |false=>rfl
     |true=>
      obtain⟨q,hq,hqw,_⟩:=wdB_iff.1 hx;rw[r.at_]at hq;simp at hq;subst hq;rw[hiw]at hqw;simp at hqw
    obtain⟨j,hj,hMj,eS,hdo⟩:=r.doesN (P:=P) (base:=base) hd tr hiw hb;have eh:=heapR_same (P:=P) (base:=base) (hk:=hk) hwd ho2;rw[eS,pS_cut]at st;have hnn:(hk j).next=(heapR P ow wf ops base sk hk fun j=>listed.getD j false).next:=by rw[eS];try rfl
    obtain⟨βX,stX,back⟩:=St.hides (fun f hf=>by
     obtain⟨g1,g2,g3⟩:=pOk j hj f hf;exact⟨by rw[hnn];omega,g1,g3⟩) ops.length st
    refine Does.wp stX hdst (Does_congr hops hdo) (fun a' w' ht=>?_);obtain⟨s',h',β',⟨rfl,rfl⟩,st',ex'⟩:=ht;obtain⟨β'',st'',ex''⟩:=back β' _ _ a' w' st' ex' (fun f hf=>(pOk j hj f hf).1);rw[hnext e1, ← pS_cut, ← eS, ← eh]at st'';rw[← pS_cut, ← eS]at ex'';refine ih _ β'' a' w' (by simpa using hsz) hc' hm' st'' (by rw[eh];exact ex.trans ex'') (by rw[eh];exact Nat.le_trans hnx ex''.next) (fun f hf hfs=>?_);rw[ex''.beta _ (by omega)];exact(hho' f hf hfs).2
theorem dwp2_sound{id:Nat}(hm:P.follows .mixedOrders=true){β:Env}{s:Slots}{h:Heap}{a:Act}{w:World}{K:Slots→Heap→Prop}{Q:Exit→Act→World→Prop}(st:St n β s h a w)(hw:dwp2 P ow wf n ops K s h)
  (hk': ∀ a' w',To n β h w K a' w'→Q .normal a' w'):(Code.region id ops.toArray true).wp P Q a w:=by
 obtain⟨h1,h2⟩:=hw;have hd:=DOk2.of h1;obtain⟨sk,hk,vk,e1,e2,hK,tr,_,_⟩:=drun2_tr ops 0 [] [] s _ (by simp) h2;rw[Nat.zero_add]at hK;refine wp_region_any hm ?_;obtain⟨s1,s2⟩:=st.sim.drew;have std:St n β s h a w.drew:=⟨s1,fun t=>s2.rep (st.rep t),st.size,st.defers⟩;obtain⟨β0,st0,ex0,hnone0⟩:=std.bump ops.length;have hS: ∀ j,(Array.replicate ops.toArray.size false).getD j false=false:=by
  intro j;rw[Array.getD_eq_getD_getElem?,Array.getElem?_replicate];split<;>rfl
 have emp: ∀ (p:Nat→Bool),(fun j=>((Array.replicate ops.toArray.size false).getD j false&&p j))=fun _=>false:=by
  intro p;funext j;rw[hS];try rfl
 have l0:lastOf (fun _=>false) ops.length=0:=lastOf_eq (Nat.zero_le _) (.inl rfl) (fun _ _ _=>rfl);have hval:valS ops sk (fun j=>(Array.replicate ops.toArray.size false).getD j false)=s:=by
  funext t;unfold valS;rw[emp,l0,e1]
 have hheap:heapR P ow wf ops h.next sk hk (fun j=>(Array.replicate ops.toArray.size false).getD j false)=h.bump ops.length:=by
  unfold heapR;rw[ovl_none (fun f=>by unfold pS;simp only[hS,Bool.and_false,Bool.false_and])];unfold MS;rw[emp,l0,e2];try rfl
 refine any_sound2 hd tr (fun f _=>?_) hK (hb:=h) (β0:=β) (w0:=w) (Nat.le_refl _) hk' _ _ β0 a w.drew (by simp) (fun j o _ hj=>by simp only[hS]at hj;simp at hj) ?_ ?_ ?_ ?_ ?_
 ·rw [e2];cases ho:h.obj (h.next+f)with
  |none=>rfl
  |some o=>have:=st.sim.lt (h.next+f) (by rw[ho];try rfl);omega
 ·have: ∀ m,miss (fun j=>(Array.replicate ops.toArray.size false).getD j false) m≤m:=by
   intro m
   induction m with
   |zero=>exact Nat.le_refl _
   |succ m ih=>unfold miss;split<;>omega
  simpa using this ops.length
 ·rw [hval,hheap];exact st0
 ·rw [hheap];exact s2.trans ex0
 ·rw [hheap];exact Nat.le_refl _
 ·intro f hf _;exact hnone0 _ (by omega)
end
end Go.AM
namespace Go.AM
section
variable {P:Program}{ow:Nat→Bool}{n:Nat}{β:Env}{h:Heap}{w:World}{s:Slots}{a:Act}
theorem St.hideG{i:Nat}{o:AObj}(hi:i<h.next)(hn:h.obj i=none)(st:St n β s (h.set i o) a w):
  ∃ βX,St n βX s h a w∧ ∀ (β':Env)(s':Slots)(h':Heap)(a':Act)(w':World),St n β' s' h' a' w'→Ext βX h w β' h' w'→h'.obj i=none→
   ∃ β'',St n β'' s' (h'.set i o) a' w'∧Ext β (h.set i o) w β'' (h'.set i o) w':=by
 have oi:(h.set i o).obj i=some o:=by simp[Heap.set]
 have on: ∀ j,j≠i→(h.set i o).obj j=h.obj j:=fun j hj=>by simp[Heap.set,hj]
 have live: ∀ j,(h.obj j).isSome=true→j≠i:=fun j hj e=>by rw[e,hn]at hj;simp at hj
 have hok:=st.sim.ok i _ oi;have fzd: ∀ c,Fz β (h.set i o) w c→Fz ⟨β.bl,⟨fun d=>β.X d∨(β i).b=some d,β.X.T⟩⟩ h w c:=fun c hc=>⟨hc.1,fun j hj=>hc.2.1 j (by rw[on j (live j hj)];exact hj),fun hx=>hx.elim hc.2.2 (fun e=>hc.2.1 i (by rw[oi];try rfl) e)⟩;have m1:Mv β h.next (Fz β (h.set i o) w) w ⟨β.bl,⟨fun d=>β.X d∨(β i).b=some d,β.X.T⟩⟩ h.next (Fz ⟨β.bl,⟨fun d=>β.X d∨(β i).b=some d,β.X.T⟩⟩ h w) w:=⟨Nat.le_refl _,fun _ _ _=>rfl,fun c hc=>⟨fzd c hc,rfl⟩,rfl⟩
 refine⟨⟨β.bl,⟨fun d=>β.X d∨(β i).b=some d,β.X.T⟩⟩,⟨⟨fun id hs=>?_,fun id o ho=>?_,fun j k hj hk c h1 h2=>?_,fun c hc=>?_,fun id hs c h1=>?_,fun id hs=>st.sim.o0 id (by rw[on id (live id hs)];exact hs)⟩,fun t=>Rep.mv m1 _ _ (st.rep t),st.size,st.defers⟩,?_⟩
 ·exact st.sim.lt id (by rw[on id (live id hs)];exact hs)
 ·have:=live id (by rw[ho];try rfl);exact ObjOk.mv m1 (fun _ _=>rfl) (st.sim.ok id o (by rw[on id this];exact ho))
 ·exact st.sim.inj j k (by rw[on j (live j hj)];exact hj) (by rw[on k (live k hk)];exact hk) c h1 h2
 ·exact hc.elim (st.sim.xs c) (fun e=>st.sim.blk_lt oi e)
 ·have hs':((h.set i o).obj id).isSome=true:=by rw[on id (live id hs)];exact hs
  rintro(hx|hx)
  ·exact st.sim.nx id hs' c h1 hx
  ·exact live id hs (st.sim.inj id i hs' (by rw[oi];try rfl) _ h1 hx)
 ·intro β' s' h' a' w' st' ex hn';have on': ∀ j,j≠i→(h'.set i o).obj j=h'.obj j:=fun j hj=>by simp[Heap.set,hj]
  have hbi:(β' i)=β i:=ex.beta i hi;have hX:β'.X=⟨fun d=>β.X d∨(β i).b=some d,β.X.T⟩:=ex.X;have fzu: ∀ c,Fz β' h' w' c→Fz ⟨β'.bl,β.X⟩ (h'.set i o) w' c:=fun c hc=>by
   have h3:=hc.2.2;rw[hX]at h3;refine⟨hc.1,fun j hj hjc=>?_,fun hx=>h3 (.inl hx)⟩;by_cases hji:j=i
   ·subst hji;have h4:(β' j).b=some c:=hjc;rw[hbi]at h4;exact h3 (.inr h4)
   ·rw [on' j hji]at hj;exact hc.2.1 j hj hjc
  have e2:Ext β (h.set i o) w ⟨β'.bl,β.X⟩ (h'.set i o) w':=
   ⟨ex.os,ex.tape,ex.output,ex.size,ex.next,ex.beta,rfl,fun c hc hl=>ex.xh c (.inl hc) hl,fun c hc=>⟨fzu c (ex.fz c (fzd c hc)).1,(ex.fz c (fzd c hc)).2⟩,ex.drawn⟩
  have m2:Mv β' h'.next (Fz β' h' w') w' ⟨β'.bl,β.X⟩ h'.next (Fz ⟨β'.bl,β.X⟩ (h'.set i o) w') w':=⟨Nat.le_refl _,fun _ _ _=>rfl,fun c hc=>⟨fzu c hc,rfl⟩,by rw[hX]⟩
  refine⟨⟨β'.bl,β.X⟩,⟨⟨fun id hs=>?_,fun id o2 ho=>?_,fun j k hj hk c h1 h2=>?_,fun c hc=>?_,fun id hs c h1=>?_,fun id hs=>by
   show(β' id).o=0;by_cases hid:id=i
   ·rw [hid,hbi];exact st.sim.o0 i (by rw[oi];try rfl)
   ·rw [on' id hid]at hs;exact st'.sim.o0 id hs⟩,fun t=>Rep.mv m2 _ _ (st'.rep t),st'.size,st'.defers⟩,e2⟩
  ·by_cases hid:id=i
   ·subst hid;exact Nat.lt_of_lt_of_le hi ex.next
   ·rw [on' id hid]at hs;exact st'.sim.lt id hs
  ·by_cases hid:id=i
   ·subst hid;have:o2=o:=(by simp[Heap.set]at ho;exact ho.symm);subst this;have h3:=ObjOk.mv (w':=w') (β':=⟨β'.bl,β.X⟩) (n':=h'.next) (F':=Fz ⟨β'.bl,β.X⟩ (h'.set id o2) w') e2.mv (fun c hc=>ex.xh c (.inr hc) (st.sim.blk_lt oi hc)) hok;show ObjOk _ _ _ _ (β' id) _;rw[hbi];exact h3
   ·rw [on' id hid]at ho;exact ObjOk.mv m2 (fun _ _=>rfl) (st'.sim.ok id o2 ho)
  ·have key: ∀ j,j≠i→((h'.set i o).obj j).isSome=true→ ∀ b,(β i).b=some b→(β' j).b≠some b:=fun j hji hj b hb e=>by
    rw[on' j hji]at hj;have:=st'.sim.nx j hj b e;rw[hX]at this;exact this (.inr hb)
   by_cases hji:j=i
   ·by_cases hki:k=i
    ·rw [hji,hki]
    ·have h3:(β' j).b=some c:=h1;rw[hji,hbi]at h3;exact(key k hki hk c h3 h2).elim
   ·by_cases hki:k=i
    ·have h3:(β' k).b=some c:=h2;rw[hki,hbi]at h3;exact(key j hji hj c h3 h1).elim
    ·rw [on' j hji]at hj;rw[on' k hki]at hk;exact st'.sim.inj j k hj hk c h1 h2
  ·exact st'.sim.xs c (by rw[hX];exact .inl hc)
  ·by_cases hid:id=i
   ·have h3:(β' id).b=some c:=h1;rw[hid,hbi]at h3;exact st.sim.nx i (by rw[oi];try rfl) c h3
   ·rw [on' id hid]at hs;have:=st'.sim.nx id hs c h1;rw[hX]at this;exact fun hx=>this (.inl hx)
theorem putL_killL{H:Heap}{l:List Nat}:putL (killL H l) H l=H:=heap_ext rfl fun j=>by
 simp only[putL,killL];by_cases h1:j∈l
 ·cases h2:H.obj j<;>simp[h1,h2]
 ·simp [h1]
theorem St.hidesK{H:Heap}(hlt: ∀ id,(H.obj id).isSome=true→id<H.next): ∀ (l:List Nat){β:Env},St n β s H a w→
  ∃ βX,St n βX s (killL H l) a w∧ ∀ (β':Env)(s':Slots)(h':Heap)(a':Act)(w':World),St n β' s' h' a' w'→Ext βX (killL H l) w β' h' w'→(∀ j∈l,(H.obj j).isSome=true→h'.obj j=none)→
   ∃ β'',St n β'' s' (putL h' H l) a' w'∧Ext β H w β'' (putL h' H l) w'
 |[],β,st=>by
  have e:killL H []=H:=heap_ext rfl fun j=>by simp[killL]
  have e': ∀ h',putL h' H []=h':=fun h'=>heap_ext rfl fun j=>by simp[putL]
  rw[e];exact⟨β,st,fun β' s' h' a' w' st' ex _=>⟨β',by rw[e'];exact st',by rw[e'];exact ex⟩⟩
 |i::l,β,st=>by
  obtain⟨β1,st1,back1⟩:=St.hidesK hlt l st;by_cases hc:l.contains i=true∨H.obj i=none
  ·have e:killL H (i::l)=killL H l:=heap_ext rfl fun j=>by
    simp only[killL,List.contains_cons];by_cases hj:j=i
    ·subst hj;rcases hc with hc|hc
     ·have hm:j∈l:=(by simpa using hc);simp[hm]
     ·simp [hc]
    ·simp [hj]
   have e': ∀ h',putL h' H (i::l)=putL h' H l:=fun h'=>heap_ext rfl fun j=>by
    simp only[putL,List.contains_cons];by_cases hj:j=i
    ·subst hj;rcases hc with hc|hc
     ·have hm:j∈l:=(by simpa using hc);simp[hm]
     ·simp [hc]
    ·simp [hj]
   rw[e];refine⟨β1,st1,fun β' s' h' a' w' st' ex hno=>?_⟩;rw[e'];exact back1 β' s' h' a' w' st' ex fun j hj=>hno j (by simp[hj])
  ·simp only[not_or]at hc;obtain⟨hc1,hc2⟩:=hc;obtain⟨o,ho⟩:=Option.ne_none_iff_exists'.1 hc2;have e:killL H l=(killL H (i::l)).set i o:=heap_ext rfl fun j=>by
    simp only[killL,Heap.set,List.contains_cons];by_cases hj:j=i
    ·subst hj;simp only[hc1,if_false,if_true];simpa using ho
    ·simp [hj]
   have hlt':i<(killL H (i::l)).next:=hlt i (by rw[ho];try rfl)
   rw[e]at st1 back1;obtain⟨β2,st2,back2⟩:=St.hideG hlt' (by simp[killL]) st1;refine⟨β2,st2,fun β' s' h' a' w' st' ex hno=>?_⟩;obtain⟨β3,st3,ex3⟩:=back2 β' s' h' a' w' st' ex (hno i (by simp) (by rw[ho];try rfl));obtain⟨β4,st4,ex4⟩:=back1 β3 s' _ a' w' st3 ex3 (fun j hj hs=>by
    have:j≠i:=fun e=>hc1 (by rw[← e];simpa using hj);simp only[Heap.set,this,if_false];exact hno j (by simp[hj]) hs)
   have e':putL h' H (i::l)=putL (h'.set i o) H l:=heap_ext rfl fun j=>by
    simp only[putL,Heap.set,List.contains_cons];by_cases hj:j=i
    ·subst hj;simp[hc1,ho]
    ·simp [hj]
   exact⟨β4,by rw[e'];exact st4,by rw[e'];exact ex4⟩
theorem rowsOf_in{m z:Nat}{ρ:Operand→PV}: ∀ (parts:List (Nat × Operand)){rows out:List (List PV)},inNR m rows→(∀ x,inN m (ρ x))→rowsOf z rows (parts.map fun p=>(p.1,ρ p.2))=some out→inNR m out
 |[],rows,out,hr,_,h=>by simp[rowsOf]at h;subst h;exact hr
 |(i,x)::ps,rows,out,hr,hx,h=>by
  simp only[List.map_cons,rowsOf]at h;split at h
  ·refine rowsOf_in ps ?_ hx h;have hc:inNL m (ρ x).cells:=by
    have:=hx x;cases hp:ρ x<;>rw[hp]at this<;>simp only[PV.cells,inNL,and_true]<;>(try exact this)
   rename_i hcnd;clear h hcnd
   induction rows generalizing i with
   |nil=>simpa using hr
   |cons r rs ih=>
    simp only[inNR]at hr;cases i with
    |zero=>simp only[List.set_cons_zero,inNR];exact⟨hc,hr.2⟩
    |succ i=>simp only[List.set_cons_succ,inNR];exact⟨hr.1,ih i hr.2⟩
  ·simp at h
theorem inNL_scs{m:Nat}: ∀ l:List Value,inNL m (l.map PV.sc)
 |[]=>by simp only[List.map_nil,inNL]
 |v::l=>by simp only[List.map_cons,inNL,inN,true_and];exact inNL_scs l
theorem inNR_rep{m k:Nat}{r:List PV}(h:inNL m r):inNR m (List.replicate k r):=by
 induction k with
 |zero=>simp only[List.replicate_zero,inNR]
 |succ k ih=>simp only[List.replicate_succ,inNR];exact⟨h,ih⟩
theorem aop_eff{id:Nat}{o:Oper}{ρ:Operand→PV}{v:PV}{ob:AObj}(ha:isA ow o=true)(h1:aop P ow id o ρ=some (v,ob))(H:Heap)(hin: ∀ x,inN H.next (ρ x)):
  ∃ z rows v1,ob= .arr z rows∧rows≠[]∧inNR H.next rows∧eff P (o.dst.any ow) o.op ρ H=some (v1,H.new ob)∧((v1= .ptr H.next 0 0∧v= .ptr id 0 0)∨ ∃ len,v1= .own H.next 0 len∧v= .own id 0 len):=by
 obtain⟨dst,op,ty,pos,af,gd⟩:=o;unfold aop at h1;simp only at h1;unfold isA at ha;simp only at ha;split at ha
 ·rename_i t;simp only[eff]at h1⊢;cases hz:zeroT P t with
  |none=>simp[hz]at h1
  |some zs=>
   simp only[hz,Option.bind_some]at h1⊢;by_cases hp:0<zs.length
   ·simp only[hp,if_true]at h1⊢;simp[Heap.new]at h1;obtain⟨rfl,rfl⟩:=h1;exact⟨_,_,_,rfl,by simp,by simp only[inNR,and_true];exact inNL_scs zs,rfl,.inl ⟨rfl,rfl⟩⟩
   ·simp [hp]at h1
 ·rename_i t l c;simp only[eff]at h1⊢;cases hz:elT P t with
  |none=>simp[hz]at h1
  |some zb=>
   cases hz2:elZ P t with
   |none=>simp[hz,hz2]at h1
   |some z=>
    cases hl:intP (ρ l)with
    |none=>simp[hz,hz2,hl]at h1
    |some nn=>
     cases hm:intP (ρ c)with
     |none=>simp[hz,hz2,hl,hm]at h1
     |some mm=>
      simp only[hz,hz2,hl,hm,Option.bind_some]at h1⊢;by_cases hcd:z.length=zb.1∧0<zb.1∧0≤nn∧nn≤mm∧mm≤281474976710656∧zb.2*mm≤281474976710656
      ·simp only[if_pos hcd]at h1⊢;simp only[Heap.new,if_true]at h1;by_cases he:(List.replicate nn.toNat (z.map PV.sc)).isEmpty=true
       ·rw [if_pos he]at h1;cases h1
       ·rw [if_neg he]at h1;simp only[Option.some.injEq,Prod.mk.injEq]at h1;obtain⟨rfl,rfl⟩:=h1;refine⟨_,_,_,rfl,fun e=>he (by rw[e];try rfl),inNR_rep (inNL_scs z),rfl,.inr ⟨_,rfl,rfl⟩⟩
      ·rw [if_neg hcd]at h1;simp at h1
 ·rename_i t x;simp only[eff,ha,if_true]at h1⊢;by_cases hc:(ρ x).cells.all oneC=false
  ·simp [hc]at h1
  ·simp only[hc,if_false]at h1⊢;by_cases hp:0<(ρ x).cells.length
   ·simp only[hp,if_true]at h1⊢;simp[Heap.new]at h1;obtain⟨rfl,rfl⟩:=h1;have hcc:inNL H.next (ρ x).cells:=by
     have:=hin x;cases hpx:ρ x<;>rw[hpx]at this<;>simp only[PV.cells,inNL,and_true]<;>(try exact this)
    exact⟨_,_,_,rfl,by simp,by simp only[inNR,and_true];exact hcc,rfl,.inl ⟨rfl,rfl⟩⟩
   ·simp [hp]at h1
 ·rename_i t len parts;simp only[eff,ha,if_true]at h1⊢;cases hz:elT P t with
  |none=>simp[hz]at h1
  |some zb=>
   cases hz2:elZ P t with
   |none=>simp[hz,hz2]at h1
   |some z=>
    simp only[hz,hz2,Option.bind_some]at h1⊢;by_cases hcd:z.length=zb.1∧0<zb.1∧len*zb.1≤16777216
    ·simp only[if_pos hcd]at h1⊢;cases hr:rowsOf zb.1 (List.replicate len (z.map .sc)) (parts.toList.map fun p=>(p.1,ρ p.2))with
     |none=>simp[hr]at h1
     |some rows=>
      simp only[hr,Option.bind_some]at h1⊢;by_cases hl:len=0
      ·simp [hl]at h1
      ·simp only[hl,if_false]at h1⊢;simp only[Heap.new,if_true]at h1;by_cases he:rows.isEmpty=true
       ·simp [he]at h1
       ·simp [he]at h1;obtain⟨rfl,rfl⟩:=h1;refine⟨_,_,_,rfl,by simpa using he,rowsOf_in _ (inNR_rep (inNL_scs z)) hin hr,rfl,.inr ⟨len,rfl,rfl⟩⟩
    ·simp [hcd]at h1
 ·simp at ha
theorem St.floatA{id0:Nat}{o:Oper}{v:PV}{ob:AObj}(ha:isA ow o=true)(h1:aop P ow id0 o (pev s)=some (v,ob))(hlt:id0<h.next)(hn:h.obj id0=none)(hb:(β id0).b=none)(st:St n β s h a w)(hd:o.dst.all (fun d=>decide (d<n))=true){K:Act→World→Prop}{Q:Exit→Act→World→Prop}
  (hk: ∀ (β':Env)(a':Act)(w':World),St n β' (updO s o.dst v) (h.set id0 ob) a' w'→(∀ id,id<h.next→id≠id0→β' id=β id)→w'.os=w.os→w'.tape=w.tape→(w'.output=w.output∧w.drawn≤w'.drawn)→w.heap.size≤w'.heap.size→β'.X=β.X→(∀ b,β.X b→b<w.heap.size→w'.heap[b]? =w.heap[b]?)→(∀ b,Fz β h w b→Fz β' (h.set id0 ob) w' b∧w'.heap[b]? =w.heap[b]?)→K a' w'):o.wp P a w K Q:=by
 have hin: ∀ x,inN h.next (pev s x):=fun x=>Rep.inN _ _ (pev_rep st.rep x)
 obtain⟨z,rows,v1,rfl,hrows,hrin,heff,hv⟩:=aop_eff ha h1 h hin;obtain⟨nx,v',w',β1,hrun,hnx,sm1,ex,hrep⟩:=eff_sound st.sim st.rep o heff;unfold Oper.wp;rw[hrun];have new0:(h.new (.arr z rows)).obj h.next=some (.arr z rows):=by simp[Heap.new]
 have newO: ∀ j,j<h.next→(h.new (.arr z rows)).obj j=h.obj j:=fun j hj=>by simp only[Heap.new];rw[if_neg (by omega)]
 have on: ∀ j,j≠id0→(h.set id0 (.arr z rows)).obj j=h.obj j:=fun j hj=>by simp[Heap.set,hj]
 have live: ∀ j,(h.obj j).isSome=true→j<h.next∧j≠id0:=fun j hj=>⟨st.sim.lt j hj,fun e=>by rw[e,hn]at hj;simp at hj⟩
 have fz2: ∀ c,Fz β1 (h.new (.arr z rows)) w' c→Fz ⟨fun id=>if id=id0 then β1 h.next else β id,β.X⟩ (h.set id0 (.arr z rows)) w' c:=fun c hc=>by
  refine⟨hc.1,fun j hj hjc=>?_,by have:=hc.2.2;rw[ex.X]at this;exact this⟩;by_cases hj0:j=id0
  ·subst hj0;simp only[if_true]at hjc;exact hc.2.1 h.next (by rw[new0];try rfl) hjc
  ·rw [on j hj0]at hj;simp only[hj0,if_false]at hjc;have hl:=(live j hj).1;exact hc.2.1 j (by rw[newO j hl];exact hj) (by rw[ex.beta j hl];exact hjc)
 have m2:Mv β1 h.next (Fz β1 (h.new (.arr z rows)) w') w' ⟨fun id=>if id=id0 then β1 h.next else β id,β.X⟩ h.next (Fz ⟨fun id=>if id=id0 then β1 h.next else β id,β.X⟩ (h.set id0 (.arr z rows)) w') w':=
  ⟨Nat.le_refl _,fun id hid hbn=>by
   have:id≠id0:=fun e=>hbn (by rw[ex.beta id hid,e];exact hb);simp only[this,if_false];exact(ex.beta id hid).symm,fun c hc=>⟨fz2 c hc,rfl⟩,by rw[ex.X]⟩
 have m3:Mv β h.next (Fz β h w) w ⟨fun id=>if id=id0 then β1 h.next else β id,β.X⟩ h.next (Fz ⟨fun id=>if id=id0 then β1 h.next else β id,β.X⟩ (h.set id0 (.arr z rows)) w') w':=
  ⟨Nat.le_refl _,fun id hid hbn=>by
   have:id≠id0:=fun e=>hbn (by rw[e];exact hb);simp only[this,if_false],fun c hc=>⟨fz2 c (ex.fz c hc).1,(ex.fz c hc).2⟩,rfl⟩
 have hv2:RepH ⟨fun id=>if id=id0 then β1 h.next else β id,β.X⟩ (h.set id0 (.arr z rows)) w' v v':=by
  rcases hv with⟨rfl,rfl⟩|⟨len,rfl,rfl⟩
  ·simp only[RepH,Rep]at hrep⊢;obtain⟨_,b,g1,g2⟩:=hrep;exact⟨hlt,b,by simp only[if_true];exact g1,by simp only[if_true];exact g2⟩
  ·simp only[RepH,Rep]at hrep⊢;obtain⟨_,aa,cap,g1,g2,g3,g4⟩:=hrep;exact⟨hlt,aa,cap,g1,g2,g3,by simp only[if_true];exact g4⟩
 have fin:St n ⟨fun id=>if id=id0 then β1 h.next else β id,β.X⟩ (updO s o.dst v) (h.set id0 (.arr z rows)) (a.put o.dst v') w':=by
  refine⟨⟨fun id hs=>?_,fun id o2 ho=>?_,fun j k hj hkk c g1 g2=>?_,fun c hc=>?_,fun id hs c g1=>?_,fun id hs=>by
   by_cases hid:id=id0
   ·simp only[hid,if_true];exact sm1.o0 h.next (by rw[new0];try rfl)
   ·simp only[hid,if_false];rw[on id hid]at hs;exact st.sim.o0 id hs⟩,fun u=>?_,?_,?_⟩
  ·by_cases hid:id=id0
   ·subst hid;exact hlt
   ·rw [on id hid]at hs;exact st.sim.lt id hs
  ·by_cases hid:id=id0
   ·subst hid;have:o2= .arr z rows:=(by simp[Heap.set]at ho;exact ho.symm);subst this;have g:=ObjOk.mv m2 (fun _ _=>rfl) (ObjOk.low (n:=h.next) (F':=Fz β1 (h.new (.arr z rows)) w') (fun b hb=>hb) (show inNO h.next (.arr z rows) by simpa only[inNO]using hrin) (sm1.ok h.next _ new0));simp only[if_true];exact g
   ·rw [on id hid]at ho;have hl:=live id (by rw[ho];try rfl);have g:=ObjOk.mv m2 (fun _ _=>rfl) (ObjOk.low (n:=h.next) (F':=Fz β1 (h.new (.arr z rows)) w') (fun b hb=>hb) (st.sim.ok id o2 ho).inN (sm1.ok id o2 (by rw[newO id hl.1];exact ho)));simp only[hid,if_false];rw[ex.beta id hl.1]at g;exact g
  ·have key: ∀ j,j≠id0→((h.set id0 (.arr z rows)).obj j).isSome=true→ ∀ c,(β j).b=some c→(β1 h.next).b≠some c:=fun j hji hj c e e2=>by
    rw[on j hji]at hj;have hl:=(live j hj).1;have:=sm1.inj j h.next (by rw[newO j hl];exact hj) (by rw[new0];try rfl) c (by rw[ex.beta j hl];exact e) e2
    omega
   by_cases hji:j=id0
   ·by_cases hki:k=id0
    ·rw [hji,hki]
    ·simp only[hji,if_true]at g1;simp only[hki,if_false]at g2;exact(key k hki hkk c g2 g1).elim
   ·by_cases hki:k=id0
    ·simp only[hki,if_true]at g2;simp only[hji,if_false]at g1;exact(key j hji hj c g1 g2).elim
    ·simp only[hji,hki,if_false]at g1 g2;rw[on j hji]at hj;rw[on k hki]at hkk;exact st.sim.inj j k hj hkk c g1 g2
  ·exact Nat.lt_of_lt_of_le (st.sim.xs c hc) ex.size
  ·by_cases hid:id=id0
   ·simp only[hid,if_true]at g1;have:=sm1.nx h.next (by rw[new0];try rfl) c g1
    rw[ex.X]at this;exact this
   ·simp only[hid,if_false]at g1;rw[on id hid]at hs;exact st.sim.nx id hs c g1
  ·cases hdd:o.dst with
   |none=>simp only[updO,Act.put];exact Rep.mv m3 _ _ (st.rep u)
   |some d=>
    rw[hdd]at hd;simp at hd;simp only[updO,upd,Act.put];by_cases hu:u=d
    ·subst hu;rw[if_pos rfl];have hus:u<a.tmps.size:=(by rw[st.size];exact hd);simpa[Array.getD_eq_getD_getElem?,hus]using hv2
    ·rw [if_neg hu];have:RepH ⟨fun id=>if id=id0 then β1 h.next else β id,β.X⟩ (h.set id0 (.arr z rows)) w' (s u) (a.tmps.getD u Go.undef):=Rep.mv m3 _ _ (st.rep u);simpa[Array.getD_eq_getD_getElem?,Array.getElem?_setIfInBounds_ne (Ne.symm hu)]using this
  ·cases hdd:o.dst with
   |none=>exact st.size
   |some d=>simp[Act.put,st.size]
  ·cases hdd:o.dst with
   |none=>exact st.defers
   |some d=>simp[Act.put,st.defers]
 have done:=hk _ _ _ fin (fun id _ hne=>by simp only[hne,if_false]) ex.os ex.tape ⟨ex.output,ex.drawn⟩ ex.size rfl (fun b hb' hl=>ex.xh b hb' hl) (fun b hbb=>⟨fz2 b (ex.fz b hbb).1,(ex.fz b hbb).2⟩);rcases hnx with rfl|⟨rfl,rfl⟩<;>exact done
theorem store_local{t:TypeId}{x y:Operand}{b:Bool}{ρ:Operand→PV}{H H':Heap}{id r f:Nat}{ob:AObj}{v:PV}(hx:ρ x= .ptr id r f)(he:eff P b (.store t x y) ρ H=some (v,H.set id ob))(ho:H'.obj id=H.obj id):eff P b (.store t x y) ρ H'=some (v,H'.set id ob):=by
 simp only[eff]at he⊢;cases hz:szT P t with
 |none=>simp[hz]at he
 |some m=>
  simp only[hz,Option.bind_some]at he⊢;split at he
  ·rename_i hc;rw[if_pos hc];rw[hx]at he⊢;simp only[wr]at he⊢;rw[ho];cases hob:H.obj id with
   |none=>simp[hob]at he
   |some o1=>
    simp only[hob]at he⊢;cases o1 with
    |arr z rows=>
     simp only at he⊢;cases hr:rows[r]? with
     |none=>simp[hr]at he
     |some q=>
      simp only[hr]at he⊢;split at he
      ·rename_i hl;simp only[hl,if_true,Option.map_some,Option.some.injEq,Prod.mk.injEq]at he⊢;refine⟨he.1,?_⟩;have:=congrArg (fun h:Heap=>h.obj id) he.2;simp[Heap.set]at this;rw[this]
      ·simp at he
    |map es=>simp at he
    |glb g lo hi=>simp at he
  ·simp at he
end
end Go.AM
namespace Go.AM
section
variable {P:Program}{ow:Nat→Bool}{wf:FuncId→Bool}{n:Nat}{ops:List Oper}{base:Nat}
structure DOk3(ops:List Oper):Prop where
 back: ∀ (j:Nat)(o:Oper),ops[j]? =some o→ ∀ e∈o.after.toList,Region.binds .any e=true→e.on<j
 nosel: ∀ (j:Nat)(o:Oper),ops[j]? =some o→ ∀ cs b,o.op≠ .select cs b
 slot: ∀ (i j:Nat)(q o:Oper),i≠j→ops[i]? =some q→ops[j]? =some o→ ∀ d,q.dst=some d→d∈looks ops o→pre ops i j=true∨pre ops j i=true
theorem DOk3.of{ops:List Oper}(h:dOk3 ops=true):DOk3 ops:=by
 unfold dOk3 at h;rw[List.all_eq_true]at h;have hm: ∀ (j:Nat)(o:Oper),ops[j]? =some o→_:=fun j o ho=>h (o,j) (List.mem_zipIdx_iff_getElem?.2 ho);refine⟨fun j o ho e he hb=>?_,fun j o ho cs b hsel=>?_,fun i j q o hij hq ho d hd hl=>?_⟩
 ·have h0:=hm j o ho;simp only[Bool.and_eq_true,List.all_eq_true]at h0;have:=h0.1.1 e he;simpa[hb]using this
 ·have h0:=hm j o ho;simp only[Bool.and_eq_true]at h0;have:=h0.1.2;rw[hsel]at this;simp at this
 ·have h0:=hm j o ho;simp only[Bool.and_eq_true,List.all_eq_true]at h0;have:=h0.2 (q,i) (List.mem_zipIdx_iff_getElem?.2 hq);simp only[Bool.or_eq_true,Bool.and_eq_true,beq_iff_eq,hd,Bool.not_eq_true']at this;rcases this with h1|h1
  ·exact absurd h1 hij
  ·rcases h1 with(h1|h1)|h1
   ·rw [List.contains_iff_mem.2 hl]at h1;simp at h1
   ·exact .inl h1
   ·exact .inr h1
theorem pre_lt3{ops:List Oper}(hd:DOk3 ops): ∀ (j i:Nat),j<ops.length→pre ops i j=true→i<j:=by
 intro j
 induction j using Nat.strongRecOn with
 |_ j ih=>
  intro i hj hp;obtain⟨e,h1,h2,h3⟩:=pre_spec (List.getElem?_eq_getElem hj) hp;have hlt:=hd.back j _ (List.getElem?_eq_getElem hj) e h1 h2;rcases h3 with rfl|⟨h4,h5⟩
  ·exact hlt
  ·exact Nat.lt_trans (ih e.on h4 i (by omega) h5) h4
variable {sk:Nat→Slots}{hk:Nat→Heap}{vk:Nat→PV}{lt:Nat→Option (Nat × AObj)}{br:Nat→Bool}
theorem Facts.slot_const(tr:Facts P ow wf n ops base sk hk vk lt br){t:Nat}{i:Nat}: ∀ d,i+d≤ops.length→(∀ j,i≤j→j<i+d→wrB ops t j=false)→sk (i+d) t=sk i t
 |0,_,_=>rfl
 |d+1,hd,hw=>by
  have ih:=Facts.slot_const tr (t:=t) (i:=i) d (by omega) (fun j h1 h2=>hw j h1 (by omega));rw[← ih];have hlt:i+d<ops.length:=by omega
  obtain⟨_,b,h1,h2,h3⟩:=tr.step (i+d) ops[i+d] (List.getElem?_eq_getElem hlt);have hnw:=hw (i+d) (by omega) (by omega);simp only[wrB,List.getElem?_eq_getElem hlt,Option.bind_some,decide_eq_false_iff_not]at hnw;have hupd: ∀ v,updO (sk (i+d)) ops[i+d].dst v t=sk (i+d) t:=by
   intro v;cases hdst:ops[i+d].dst with
   |none=>rfl
   |some dd=>
    simp only[updO,upd];rw[if_neg];intro e;subst e;exact hnw hdst
  rw[show i+(d+1)=i+d+1 by omega];cases b with
  |false=>rw[(h2 rfl).1];exact hupd _
  |true=>rw[(h3 rfl).1];exact hupd _
theorem Rdy.slot3(hd:DOk3 ops)(tr:Facts P ow wf n ops base sk hk vk lt br){S:Nat→Bool}{i:Nat}{o:Oper}(r:Rdy ops S i o){t:Nat}(ht:t∈looks ops o):valS ops sk S t=sk i t:=by
 have hi:i<ops.length:=(List.getElem?_eq_some_iff.1 r.at_).1;obtain⟨h1,h2,h3⟩:=lastOf_spec (fun j=>S j&&wrB ops t j) ops.length;unfold valS;generalize lastOf (fun j=>S j&&wrB ops t j) ops.length=m at*
 -- a writer of t that is not this operation comes before or behind it
 have ord: ∀ j,j<ops.length→j≠i→wrB ops t j=true→Go.AM.pre ops j i=true∨Go.AM.pre ops i j=true:=by
  intro j hj hne hw;simp only[wrB,List.getElem?_eq_getElem hj,Option.bind_some,decide_eq_true_eq]at hw;exact hd.slot j i _ o hne (List.getElem?_eq_getElem hj) r.at_ t hw ht
 rcases Nat.lt_or_ge i m with h4|h4
 ·-- a writer behind i has been done: none can be
  rcases h2 with h2|⟨k,h2,h5⟩
  ·omega
  ·simp only[Bool.and_eq_true]at h5;by_cases hki:k=i
   ·subst hki;rw[r.new]at h5;simp at h5
   ·rcases ord k (by omega) hki h5.2 with h6|h6
    ·have:=pre_lt3 hd i k hi h6;omega
    ·rw [r.not_pre (by omega) h5.1]at h6;simp at h6
 ·have:=tr.slot_const (t:=t) (i:=m) (i-m) (by omega) (fun j h5 h6=>?_)
  ·rw [show m+(i-m)=i by omega]at this;exact this.symm
  ·cases hw:wrB ops t j with
   |false=>rfl
   |true=>
    have hns:=h3 j h5 (by omega);rw[hw,Bool.and_true]at hns;rcases ord j (by omega) (by omega) hw with h7|h7
    ·rw [r.bef h7]at hns;simp at hns
    ·have:=pre_lt3 hd j i (by omega) h7;omega
theorem Rdy.next3(hd:DOk3 ops)(tr:Facts P ow wf n ops base sk hk vk lt br){S S':Nat→Bool}{i:Nat}{o:Oper}(r:Rdy ops S i o)(hs':S' i=true)(ho: ∀ j,j≠i→S' j=S j){x:PV}(hx:sk (i+1)=updO (sk i) o.dst x):
  updO (valS ops sk S) o.dst x=valS ops sk S':=by
 have hi:i<ops.length:=(List.getElem?_eq_some_iff.1 r.at_).1;funext t;have hwr:wrB ops t i=decide (o.dst=some t):=by simp[wrB,r.at_]
 by_cases ht:o.dst=some t
 ·have hl:t∈looks ops o:=by simp[looks,ht]
  have h1:updO (valS ops sk S) o.dst x t=x:=by rw[ht];simp[updO,upd]
  have h2:sk (i+1) t=x:=by rw[hx,ht];simp[updO,upd]
  rw[h1, ← h2];unfold valS;rw[lastOf_eq (m:=i+1) (by omega) (.inr ⟨i,rfl,by rw[hs',hwr];simp[ht]⟩)];intro j h3 h4;cases hw:wrB ops t j with
  |false=>simp
  |true=>
   cases hsj:S' j with
   |false=>simp
   |true=>
    rw[ho j (by omega)]at hsj;simp only[wrB,List.getElem?_eq_getElem h4,Option.bind_some,decide_eq_true_eq]at hw;rcases hd.slot j i _ o (by omega) (List.getElem?_eq_getElem h4) r.at_ t hw hl with h7|h7
    ·have:=pre_lt3 hd i j hi h7;omega
    ·rw [r.not_pre h4 hsj]at h7;simp at h7
 ·have h1:updO (valS ops sk S) o.dst x t=valS ops sk S t:=by
   cases hdst:o.dst with
   |none=>rfl
   |some d=>
    simp only[updO,upd];rw[if_neg];intro e;subst e;exact ht hdst
  rw[h1];unfold valS;rw[lastOf_congr ops.length (fun j hj=>?_)];by_cases hji:j=i
  ·subst hji;rw[hwr];simp[ht]
  ·rw [ho j hji]
theorem lob_succ{p:Nat→Bool}{H:Heap}{m:Nat}:lob lt p H (m+1)=match lt m with
  |some q=>if p m=true then(lob lt p H m).set q.1 q.2 else lob lt p H m
  |none=>lob lt p H m:=rfl
theorem lob_next{p:Nat→Bool}{H:Heap}: ∀ m,(lob lt p H m).next=H.next
 |0=>rfl
 |m+1=>by
  unfold lob;split
  ·split
   ·exact lob_next m
   ·exact lob_next m
  ·exact lob_next m
theorem lob_congr{p q:Nat→Bool}{H:Heap}: ∀ m,(∀ f,f<m→(lt f).isSome=true→p f=q f)→lob lt p H m=lob lt q H m
 |0,_=>rfl
 |m+1,h=>by
  have ih:=lob_congr (H:=H) m (fun f hf=>h f (by omega));unfold lob;cases hl:lt m with
  |none=>exact ih
  |some x=>simp only[h m (by omega) (by rw[hl];try rfl),ih]
theorem lob_hi{p:Nat→Bool}{H:Heap}{m:Nat}: ∀ d,(∀ f,m≤f→f<m+d→(lt f).isSome=true→p f=false)→lob lt p H (m+d)=lob lt p H m
 |0,_=>rfl
 |d+1,h=>by
  have ih:=lob_hi (H:=H) d (fun f h1 h2=>h f h1 (by omega));rw[show m+(d+1)=m+d+1 by omega,lob_succ];cases hl:lt (m+d)with
  |none=>exact ih
  |some x=>simp only[h (m+d) (by omega) (by omega) (by rw[hl];try rfl),Bool.false_eq_true,if_false];exact ih
theorem set_comm{H:Heap}{i j:Nat}{a b:AObj}(h:i≠j):(H.set i a).set j b=(H.set j b).set i a:=heap_ext rfl fun k=>by
 simp only[Heap.set];by_cases h1:k=i
 ·by_cases h2:k=j
  ·exact (h (h1 ▸ h2)).elim
  ·simp [h1,h]
 ·simp [h1]
theorem lob_add{p p':Nat→Bool}{H:Heap}{x id:Nat}{ob:AObj}(hx:lt x=some (id,ob))(h1:p x=false)(h2:p' x=true)(h3: ∀ f,f≠x→p' f=p f): ∀ m,x<m→(∀ f q,x<f→f<m→p f=true→lt f=some q→q.1≠id)→lob lt p' H m=(lob lt p H m).set id ob
 |0,h,_=>by omega
 |m+1,h,h4=>by
  by_cases hm:m=x
  ·subst hm;unfold lob;rw[hx];simp only[h1,h2,if_true,Bool.false_eq_true,if_false];rw[lob_congr m (fun f hf _=>h3 f (by omega))]
  ·have ih:=lob_add hx h1 h2 h3 (H:=H) m (by omega) (fun f q a b=>h4 f q a (by omega));unfold lob;cases hl:lt m with
   |none=>exact ih
   |some q=>
    simp only[h3 m hm];split
    ·rename_i hp;rw[ih,set_comm (fun e=>h4 m q (by omega) (by omega) hp hl e.symm)]
    ·exact ih
theorem lob_obj{p q:Nat→Bool}{H:Heap}{id:Nat}: ∀ m,(∀ f x,f<m→lt f=some x→x.1=id→p f=q f)→(lob lt p H m).obj id=(lob lt q H m).obj id
 |0,_=>rfl
 |m+1,h=>by
  have ih:=lob_obj (H:=H) m (fun f x hf=>h f x (by omega));unfold lob;cases hl:lt m with
  |none=>exact ih
  |some x=>
   by_cases hx:x.1=id
   ·simp only[h m x (by omega) hl hx];split
    ·simp [Heap.set,hx]
    ·exact ih
   ·have hx':¬ id=x.1:=fun e=>hx e.symm;cases p m<;>cases q m<;>simp[Heap.set,hx',ih]
theorem lob_none{p:Nat→Bool}{H:Heap}{id:Nat}: ∀ m,(∀ f x,f<m→p f=true→lt f=some x→x.1≠id)→(lob lt p H m).obj id=H.obj id:=fun m h=>by
 rw[lob_obj (q:=fun _=>false) m (fun f x hf hl he=>by
  cases hp:p f with
  |false=>rfl
  |true=>exact(h f x hf hp hl he).elim)]
 have:=lob_hi (lt:=lt) (p:=fun _=>false) (H:=H) (m:=0) m (fun _ _ _ _=>rfl);rw[Nat.zero_add]at this;rw[this];try rfl
theorem kill_set{H:Heap}{l:List Nat}{id:Nat}{ob:AObj}:killL (H.set id ob) l=if l.contains id=true then killL H l else(killL H l).set id ob:=by
 split
 ·rename_i hc;refine heap_ext rfl fun j=>?_;have hm:id∈l:=by simpa using hc
  simp only[killL,Heap.set];by_cases hj:j=id
  ·subst hj;simp[hm]
  ·simp [hj]
 ·rename_i hc;refine heap_ext rfl fun j=>?_;simp only[killL,Heap.set];by_cases hj:j=id
  ·subst hj;simp only[hc,if_true];simp
  ·simp [hj]
theorem lob_kill{p q:Nat→Bool}{H:Heap}{l:List Nat}: ∀ m,(∀ f x,f<m→lt f=some x→p f=q f∨x.1∈l)→killL (lob lt p H m) l=killL (lob lt q H m) l
 |0,_=>rfl
 |m+1,h=>by
  have ih:=lob_kill (H:=H) m (fun f x hf=>h f x (by omega));unfold lob;cases hl:lt m with
  |none=>exact ih
  |some x=>
   rcases h m x (by omega) hl with he|he
   ·simp only[he];split
    ·rw [kill_set,kill_set,ih]
    ·exact ih
   ·have hc:l.contains x.1=true:=(by simpa using he);cases p m<;>cases q m<;>simp only[kill_set,hc,if_true,ih,Bool.false_eq_true,if_false]
theorem after_conv(b:Nat→Nat): ∀ (l:List Edge)(s i:Nat),(s.testBit i=true∨ ∃ e∈l,Region.binds .any e=true∧(i=e.on∨(b e.on).testBit i=true))→(l.foldl (fun s e=>if Region.binds .any e then s|||2 ^ e.on|||b e.on else s) s).testBit i=true
 |[],s,i,h=>by
  rcases h with h|⟨e,he,_⟩
  ·exact h
  ·simp at he
 |e::l,s,i,h=>by
  simp only[List.foldl_cons];refine after_conv b l _ i ?_;rcases h with h|⟨e',he',hb,hi⟩
  ·left;split
   ·simp [Nat.testBit_or,h]
   ·exact h
  ·simp only[List.mem_cons]at he';rcases he' with rfl|he'
   ·left;rw[if_pos hb];rcases hi with rfl|hi
    ·simp [Nat.testBit_or,Nat.testBit_two_pow_self]
    ·simp [Nat.testBit_or,hi]
   ·exact .inr ⟨e',he',hb,hi⟩
theorem pre_edge{i j:Nat}{o:Oper}{e:Edge}(ho:ops[j]? =some o)(he:e∈o.after.toList)(hb:Region.binds .any e=true)(hlt:e.on<j)(hi:i=e.on∨pre ops i e.on=true):pre ops i j=true:=by
 unfold pre at hi⊢;have hbb:Region.before ops.toArray=ops.foldl (fun acc o=>acc.push (o.after.foldl (fun s e=>if Region.binds .any e then s|||2 ^ e.on|||acc.getD e.on 0 else s) 0)) #[]:=by
  unfold Region.before;rw[← Array.foldl_toList]
 have h3:=(before_go (fun acc o=>acc.push (o.after.foldl (fun s e=>if Region.binds .any e then s|||2 ^ e.on|||acc.getD e.on 0 else s) 0))
  (fun b o=>o.after.toList.foldl (fun s e=>if Region.binds .any e then s|||2 ^ e.on|||b e.on else s) 0) (fun acc o=>by rw[← Array.foldl_toList]) ops #[]).2.2 j o ho
 simp only[List.size_toArray,List.length_nil,Nat.zero_add]at h3;rw[← hbb]at h3;rw[h3];refine after_conv (fun m=>if m<j then(Region.before ops.toArray).getD m 0 else 0) _ _ _ (.inr ⟨e,he,hb,hi.imp id fun h=>?_⟩);rw[if_pos hlt];exact h
theorem pre_trans(hd:DOk3 ops): ∀ (c:Nat){a b:Nat},c<ops.length→pre ops a b=true→pre ops b c=true→pre ops a c=true:=by
 intro c
 induction c using Nat.strongRecOn with
 |_ c ih=>
  intro a b hc hab hbc;obtain⟨e,h1,h2,h3⟩:=pre_spec (List.getElem?_eq_getElem hc) hbc;have hlt:=hd.back c _ (List.getElem?_eq_getElem hc) e h1 h2;refine pre_edge (List.getElem?_eq_getElem hc) h1 h2 hlt (.inr ?_);rcases h3 with rfl|⟨_,h5⟩
  ·exact hab
  ·exact ih e.on hlt (by omega) hab h5
theorem fmap_congr{α γ:Type}{f g:α→Option γ}: ∀ {l:List α},(∀ x∈l,f x=g x)→l.filterMap f=l.filterMap g
 |[],_=>rfl
 |x::l,h=>by
  have h1:=h x (by simp);have h2:=fmap_congr (f:=f) (g:=g) (l:=l) (fun y hy=>h y (by simp[hy]));simp only[List.filterMap_cons,h1,h2]
def MB(br:Nat→Bool)(ops:List Oper)(S:Nat→Bool):Nat:=lastOf (fun j=>S j&&br j) ops.length
def dl(lt:Nat→Option (Nat × AObj))(br:Nat→Bool)(ops:List Oper)(S:Nat→Bool):List Nat:=(List.range ops.length).filterMap fun f=>if(decide (f<MB br ops S)&&!(S f))=true then(lt f).map (·.1)else none
def Xs(lt:Nat→Option (Nat × AObj))(br:Nat→Bool)(ops:List Oper)(hk:Nat→Heap)(S:Nat→Bool):Heap:=lob lt (fun f=>decide (MB br ops S≤f)&&S f) (hk (MB br ops S)) ops.length
def Hs(lt:Nat→Option (Nat × AObj))(br:Nat→Bool)(ops:List Oper)(hk:Nat→Heap)(S:Nat→Bool):Heap:=killL (Xs lt br ops hk S) (dl lt br ops S)
theorem MB_spec{S:Nat→Bool}{j:Nat}(h1:MB br ops S≤j)(h2:j<ops.length)(h3:S j=true):br j=false:=by
 have:=(lastOf_spec (fun j=>S j&&br j) ops.length).2.2 j h1 h2;simpa[h3]using this
theorem MB_last{S:Nat→Bool}:MB br ops S=0∨ ∃ k,MB br ops S=k+1∧S k=true∧br k=true:=by
 rcases(lastOf_spec (fun j=>S j&&br j) ops.length).2.1 with h|⟨k,h1,h2⟩
 ·exact .inl h
 ·simp only[Bool.and_eq_true]at h2;exact .inr ⟨k,h1,h2⟩
theorem MB_le{S:Nat→Bool}:MB br ops S≤ops.length:=(lastOf_spec _ _).1
theorem mem_dl{S:Nat→Bool}{id:Nat}:id∈dl lt br ops S↔ ∃ f q,f<ops.length∧f<MB br ops S∧S f=false∧lt f=some q∧q.1=id:=by
 unfold dl;rw[List.mem_filterMap];constructor
 ·rintro ⟨f,hf,h1⟩;split at h1
  ·rename_i hc;simp only[Bool.and_eq_true,decide_eq_true_eq,Bool.not_eq_true']at hc;cases hl:lt f with
   |none=>simp[hl]at h1
   |some q=>simp[hl]at h1;exact⟨f,q,List.mem_range.1 hf,hc.1,hc.2,hl,h1⟩
  ·simp at h1
 ·rintro ⟨f,q,h1,h2,h3,h4,h5⟩;exact⟨f,List.mem_range.2 h1,by simp[h2,h3,h4,h5]⟩
theorem kill_kill{H:Heap}{l l':List Nat}(h: ∀ id∈l,id∈l'):killL (killL H l) l'=killL H l':=heap_ext rfl fun j=>by
 simp only[killL];by_cases h1:j∈l'
 ·simp [h1]
 ·have:j ∉ l:=fun h2=>h1 (h j h2);simp[h1,this]
theorem Facts.excl(tr:Facts P ow wf n ops base sk hk vk lt br){j:Nat}(hj:j<ops.length):br j=true→lt j=none:=by
 intro hb;obtain⟨_,b,_,h1,h2⟩:=tr.step j ops[j] (List.getElem?_eq_getElem hj);cases b with
 |false=>rw[(h1 rfl).2.2.2]at hb;simp at hb
 |true=>
  cases hw:isW ow wf ops[j]with
  |false=>rw[((h2 rfl).2.1 hw).2.2.1]at hb;simp at hb
  |true=>
   rcases(h2 rfl).2.2 hw with h3|h3|h3
   ·exact h3.2.1
   ·rw [h3.1]at hb;simp at hb
   ·rw [h3.1]at hb;simp at hb
theorem Facts.kind(tr:Facts P ow wf n ops base sk hk vk lt br){f:Nat}{q:Nat × AObj}(hf:f<ops.length)(hl:lt f=some q):
  br f=false∧hk (f+1)=(hk f).set q.1 q.2∧((isA ow ops[f]=true∧q.1=base+f)∨(isA ow ops[f]=false∧ ∀ g o,f<g→ops[g]? =some o→isA ow o=true→base+g≠q.1)):=by
 obtain⟨_,b,_,h1,h2⟩:=tr.step f ops[f] (List.getElem?_eq_getElem hf);cases b with
 |false=>rw[(h1 rfl).2.2.1]at hl;simp at hl
 |true=>
  cases hw:isW ow wf ops[f]with
  |false=>rw[((h2 rfl).2.1 hw).2.1]at hl;simp at hl
  |true=>
   rcases(h2 rfl).2.2 hw with h3|h3|h3
   ·rw [h3.2.1]at hl;simp at hl
   ·obtain ⟨k1,k2,ob,k3,_,k4⟩:=h3;rw[k3]at hl;simp at hl;subst hl;exact⟨k1,k4,.inl ⟨k2,rfl⟩⟩
   ·obtain ⟨k1,t,x,y,id,r,ff,ob,k2,_,k3,k4,k5,_⟩:=h3;rw[k3]at hl;simp at hl;subst hl;exact⟨k1,k4,.inr ⟨by unfold isA;rw[k2],k5⟩⟩
theorem Facts.hstep(tr:Facts P ow wf n ops base sk hk vk lt br){j:Nat}(hj:j<ops.length)(hb:br j=false):hk (j+1)=match lt j with
  |some q=>(hk j).set q.1 q.2
  |none=>hk j:=by
 cases hl:lt j with
 |some q=>exact(tr.kind hj hl).2.1
 |none=>
  obtain⟨_,b,_,h1,h2⟩:=tr.step j ops[j] (List.getElem?_eq_getElem hj);cases b with
  |false=>exact(h1 rfl).2.1
  |true=>
   cases hw:isW ow wf ops[j]with
   |false=>exact((h2 rfl).2.1 hw).1
   |true=>
    rcases(h2 rfl).2.2 hw with h3|h3|h3
    ·rw [h3.1]at hb;simp at hb
    ·obtain ⟨_,_,ob,h4,_,_⟩:=h3;rw[h4]at hl;simp at hl
    ·obtain ⟨_,t,x,y,id,r,f,ob,_,_,h4,_,_⟩:=h3;rw[h4]at hl;simp at hl
theorem Facts.seg(tr:Facts P ow wf n ops base sk hk vk lt br){M:Nat}: ∀ d,M+d≤ops.length→(∀ j,M≤j→j<M+d→br j=false)→hk (M+d)=lob lt (fun f=>decide (M≤f)) (hk M) (M+d)
 |0,_,_=>by
  have:=lob_hi (lt:=lt) (p:=fun f=>decide (M≤f)) (H:=hk M) (m:=0) M (fun f _ hf _=>by simp;omega);rw[Nat.zero_add]at this;rw[Nat.add_zero,this];try rfl
 |d+1,hd,hn=>by
  have ih:=Facts.seg tr d (by omega) (fun j h1 h2=>hn j h1 (by omega));have hs:=tr.hstep (j:=M+d) (by omega) (hn (M+d) (by omega) (by omega));rw[show M+(d+1)=M+d+1 by omega,hs];unfold lob;cases hl:lt (M+d)with
  |none=>simp only;rw[← ih]
  |some q=>simp only[show decide (M≤M+d)=true by simp,if_true];rw[← ih]
theorem Facts.segL(tr:Facts P ow wf n ops base sk hk vk lt br){M i:Nat}(h1:M≤i)(h2:i≤ops.length)(hn: ∀ j,M≤j→j<i→br j=false):hk i=lob lt (fun f=>decide (M≤f)&&decide (f<i)) (hk M) ops.length:=by
 have h3:=tr.seg (M:=M) (i-M) (by omega) (fun j a c=>hn j a (by omega));rw[show M+(i-M)=i by omega]at h3;obtain⟨d,hdd⟩: ∃ d,ops.length=i+d:=⟨ops.length-i,by omega⟩;rw[h3,hdd,lob_hi d (fun f a _ _=>by simp;omega)];exact lob_congr _ fun f hf _=>by simp[hf]
theorem Facts.noneH(tr:Facts P ow wf n ops base sk hk vk lt br)(h0: ∀ f,(hk 0).obj (base+f)=none): ∀ j,j≤ops.length→ ∀ f q,j≤f→ops[f]? =some q→isA ow q=true→(hk j).obj (base+f)=none
 |0,_,f,_,_,_,_=>h0 f
 |j+1,hj,f,q,hle,hq,ha=>by
  have ih:=Facts.noneH tr h0 j (by omega) f q (by omega) hq ha;obtain⟨_,b,_,h1,h2⟩:=tr.step j ops[j] (List.getElem?_eq_getElem (by omega));cases b with
  |false=>rw[(h1 rfl).2.1];exact ih
  |true=>
   cases hw:isW ow wf ops[j]with
   |false=>rw[((h2 rfl).2.1 hw).1];exact ih
   |true=>
    rcases(h2 rfl).2.2 hw with h3|h3|h3
    ·exact h3.2.2.2 f q (by omega) hq ha
    ·obtain ⟨_,_,ob,_,_,h5⟩:=h3;rw[h5];simp only[Heap.set];rw[if_neg (by omega)];exact ih
    ·obtain ⟨_,t,x,y,id,r,f',ob,_,_,h4,h5,h6,_⟩:=h3;rw[h5];simp only[Heap.set];rw[if_neg (h6 f q (by omega) hq ha)];exact ih
theorem mem_kx{x f:Nat}{q:Nat × AObj}(hf:f<ops.length)(h0:x≠f)(h2:pre ops f x=false)(h1:pre ops x f=false∨isA ow ops[f]=true)(hl:lt f=some q):q.1∈kx ow ops lt x:=by
 unfold kx;rw[List.mem_filterMap];refine⟨f,List.mem_range.2 hf,?_⟩;rw[List.getElem?_eq_getElem hf];rcases h1 with h1|h1<;>simp[h0,h1,h2,hl]
theorem kx_mem{x id:Nat}(h:id∈kx ow ops lt x): ∃ f q, ∃ hf:f<ops.length,x≠f∧pre ops f x=false∧(pre ops x f=false∨isA ow ops[f]=true)∧lt f=some q∧q.1=id:=by
 unfold kx at h;rw[List.mem_filterMap]at h;obtain⟨f,hf,h1⟩:=h;have hf':=List.mem_range.1 hf;split at h1
 ·rename_i hc;rw[List.getElem?_eq_getElem hf']at hc;simp only[Bool.and_eq_true,Bool.or_eq_true,Bool.not_eq_true',beq_eq_false_iff_ne,Option.any_some]at hc;cases hl:lt f with
  |none=>simp[hl]at h1
  |some q=>simp[hl]at h1;exact⟨f,q,hf',hc.1.1,hc.1.2,hc.2,hl,h1⟩
 ·simp at h1
theorem Rdy.closedB(tr:Facts P ow wf n ops base sk hk vk lt br){S:Nat→Bool}{i:Nat}{o:Oper}(r:Rdy ops S i o){b:Nat}(hb:b<MB br ops S)(hbr:br b=true):S b=true:=by
 rcases MB_last (br:=br) (ops:=ops) (S:=S)with h|⟨k,h1,h2,h3⟩
 ·omega
 ·have hkl:k<ops.length:=by have:=MB_le (br:=br) (ops:=ops) (S:=S);omega
  by_cases hbk:b=k
  ·rw [hbk];exact h2
  ·rcases tr.ww b k (by omega) hkl (.inl hbr) (.inl h3)with h5|⟨p,q,_,h5,_⟩|⟨_,h5,_⟩|⟨h5,_⟩
   ·exact r.closed.pre k b hkl h2 h5
   ·rw [tr.excl hkl h3]at h5;simp at h5
   ·rw [tr.excl hkl h3]at h5;simp at h5
   ·rw [tr.excl (by omega) hbr]at h5;simp at h5
theorem Rdy.early(tr:Facts P ow wf n ops base sk hk vk lt br){S:Nat→Bool}{i:Nat}{o:Oper}(r:Rdy ops S i o){f:Nat}{q:Nat × AObj}(hf:f<MB br ops S)(hs:S f=false)(hl:lt f=some q): ∃ hf:f<ops.length,isA ow ops[f]=true∧q.1=base+f:=by
 rcases MB_last (br:=br) (ops:=ops) (S:=S)with h|⟨k,h1,h2,h3⟩
 ·omega
 ·have hkl:k<ops.length:=by have:=MB_le (br:=br) (ops:=ops) (S:=S);omega
  have hfl:f<ops.length:=by omega
  have hfk:f≠k:=fun e=>by rw[e,h2]at hs;simp at hs
  refine⟨hfl,?_⟩;have hA:isA ow ops[f]=true:=by
   rcases tr.ww f k (by omega) hkl (.inr (by rw[hl];try rfl)) (.inl h3)with h5|⟨p,q',_,h5,_⟩|⟨_,h5,_⟩|⟨_,_,o2,h5,h6⟩
   ·rw [r.closed.pre k f hkl h2 h5]at hs;simp at hs
   ·rw [tr.excl hkl h3]at h5;simp at h5
   ·rw [tr.excl hkl h3]at h5;simp at h5
   ·rw [List.getElem?_eq_getElem hfl]at h5;simp at h5;rw[h5];exact h6
  refine⟨hA,?_⟩;rcases(tr.kind hfl hl).2.2 with h5|h5
  ·exact h5.2
  ·rw [h5.1]at hA;simp at hA
theorem Rdy.mb(tr:Facts P ow wf n ops base sk hk vk lt br){S:Nat→Bool}{i:Nat}{o:Oper}(r:Rdy ops S i o)(hw:br i=true∨((lt i).isSome=true∧isA ow o=false)):MB br ops S≤i:=by
 rcases MB_last (br:=br) (ops:=ops) (S:=S)with h|⟨k,h1,h2,h3⟩
 ·omega
 ·rcases Nat.lt_or_ge i (MB br ops S)with h4|h4
  ·have hki:k≠i:=(by intro e;subst e;rw[r.new]at h2;simp at h2);have hkl:k<ops.length:=(by have:=MB_le (br:=br) (ops:=ops) (S:=S);omega);rcases tr.ww i k (by omega) hkl (hw.imp id (·.1)) (.inl h3)with h5|⟨p,q,_,h5,_⟩|⟨_,h5,_⟩|⟨h5,_,o2,h6,h7⟩
   ·rw [r.not_pre hkl h2]at h5;simp at h5
   ·rw [tr.excl hkl h3]at h5;simp at h5
   ·rw [tr.excl hkl h3]at h5;simp at h5
   ·rw [r.at_]at h6;simp at h6;subst h6;rcases hw with hw|hw
    ·rw [tr.excl (by omega) hw]at h5;simp at h5
    ·rw [h7]at hw;simp at hw
  ·exact h4
theorem MB_same{S S':Nat→Bool}{i:Nat}(hw:br i=false)(ho: ∀ j,j≠i→S' j=S j):MB br ops S'=MB br ops S:=by
 unfold MB;refine lastOf_congr ops.length fun j hj=>?_;by_cases hji:j=i
 ·subst hji;simp[hw]
 ·rw [ho j hji]
theorem Hs_same{S S':Nat→Bool}{i:Nat}(hb:br i=false)(hl:lt i=none)(ho: ∀ j,j≠i→S' j=S j):Hs lt br ops hk S'=Hs lt br ops hk S:=by
 have h1:Xs lt br ops hk S'=Xs lt br ops hk S:=by
  unfold Xs;rw[MB_same hb ho];refine lob_congr _ fun f hf hs=>?_;have:f≠i:=fun e=>by rw[e,hl]at hs;simp at hs
  rw[ho f this]
 have h2:dl lt br ops S'=dl lt br ops S:=by
  unfold dl;rw[MB_same hb ho];refine fmap_congr fun f hf=>?_;by_cases hfi:f=i
  ·rw [hfi,hl];simp
  ·rw [ho f hfi]
 unfold Hs;rw[h1,h2]
theorem Rdy.dl_kx(tr:Facts P ow wf n ops base sk hk vk lt br){S:Nat→Bool}{i:Nat}{o:Oper}(r:Rdy ops S i o)(hli:lt i=none): ∀ id∈dl lt br ops S,id∈kx ow ops lt i:=by
 intro id hid;obtain⟨f,q,h1,h2,h3,h4,h5⟩:=mem_dl.1 hid;obtain⟨_,hA,_⟩:=r.early tr h2 h3 h4;rw[← h5];refine mem_kx h1 (fun e=>by rw[← e,hli]at h4;simp at h4) ?_ (.inr hA) h4;cases hp:Go.AM.pre ops f i with
 |false=>rfl
 |true=>rw[r.bef hp]at h3;simp at h3
theorem Rdy.quiet(hd:DOk3 ops)(tr:Facts P ow wf n ops base sk hk vk lt br){S:Nat→Bool}{i:Nat}{o:Oper}(r:Rdy ops S i o)(hli:lt i=none):cutOk ops br i (MB br ops S)∧ ∀ l,(∀ id∈kx ow ops lt i,id∈l)→killL (Hs lt br ops hk S) l=gx ops lt hk i (MB br ops S) l:=by
 refine⟨⟨MB_le,fun b hb hbr=>?_,fun b hb hbr=>?_,?_⟩,?_⟩
 ·exact r.not_pre (by have:=MB_le (br:=br) (ops:=ops) (S:=S);omega) (r.closedB tr hb hbr)
 ·cases hp:Go.AM.pre ops b i with
  |false=>rfl
  |true=>
   have hil:i<ops.length:=(List.getElem?_eq_some_iff.1 r.at_).1;have hbi:=pre_lt3 hd i b hil hp;rw[MB_spec hb (by omega) (r.bef hp)]at hbr;simp at hbr
 ·rcases MB_last (br:=br) (ops:=ops) (S:=S)with h|⟨k,h1,h2,h3⟩
  ·exact .inl h
  ·exact .inr (by rw[h1];exact h3)
 ·intro l hkl;unfold Hs gx;rw[kill_kill (fun id hid=>hkl id (r.dl_kx tr hli id hid))];unfold Xs;refine lob_kill _ fun f x hf hl=>?_;by_cases hM:MB br ops S≤f
  ·simp only[hM,decide_true,Bool.true_and];cases hp:Go.AM.pre ops f i with
   |true=>exact .inl (r.bef hp)
   |false=>
    cases hs:S f with
    |false=>exact .inl rfl
    |true=>
     refine .inr (hkl _<|mem_kx hf (fun e=>by rw[← e,r.new]at hs;simp at hs) hp (.inl (r.not_pre hf hs)) hl)
  ·exact .inl (by simp[hM])
theorem Rdy.others(tr:Facts P ow wf n ops base sk hk vk lt br){S:Nat→Bool}{i id:Nat}{ob:AObj}{o:Oper}(r:Rdy ops S i o)(hl:lt i=some (id,ob)):
  ∀ f q,f<ops.length→S f=true→lt f=some q→i<f→q.1≠id:=by
 have hil:i<ops.length:=(List.getElem?_eq_some_iff.1 r.at_).1;have hb:br i=false:=(tr.kind hil hl).1;intro f q hf hs hlf hif;rcases tr.ww i f hif hf (.inr (by rw[hl];try rfl)) (.inr (by rw[hlf];try rfl))with h5|⟨p,q',h5,h6,h7⟩|⟨h5,_⟩|⟨_,h5,_⟩
 ·rw [r.not_pre hf hs]at h5;simp at h5
 ·rw [hl]at h5;rw[hlf]at h6;simp at h5 h6;subst h5;subst h6;exact fun e=>h7 e.symm
 ·rw [hb]at h5;simp at h5
 ·rw [tr.excl hf h5]at hlf;simp at hlf
theorem Rdy.light(tr:Facts P ow wf n ops base sk hk vk lt br){S S':Nat→Bool}{i id:Nat}{ob:AObj}{o:Oper}(r:Rdy ops S i o)(hl:lt i=some (id,ob))(hM:MB br ops S≤i)(hid:id ∉ dl lt br ops S)(hs':S' i=true)(ho: ∀ j,j≠i→S' j=S j):
  Hs lt br ops hk S'=(Hs lt br ops hk S).set id ob:=by
 have hil:i<ops.length:=(List.getElem?_eq_some_iff.1 r.at_).1;have hb:br i=false:=(tr.kind hil hl).1;have h1:Xs lt br ops hk S'=(Xs lt br ops hk S).set id ob:=by
  unfold Xs;rw[MB_same hb ho];refine lob_add hl (by simp[r.new]) (by simp[hM,hs']) (fun f hf=>by rw[ho f hf]) _ hil (fun f q hif hfl hp hlf=>?_);simp only[Bool.and_eq_true,decide_eq_true_eq]at hp;exact r.others tr hl f q hfl hp.2 hlf hif
 have h2:dl lt br ops S'=dl lt br ops S:=by
  unfold dl;rw[MB_same hb ho];refine fmap_congr fun f hf=>?_;by_cases hfi:f=i
  ·rw [hfi];simp[show ¬ i<MB br ops S by omega]
  ·rw [ho f hfi]
 unfold Hs;rw[h1,h2,kill_set,if_neg (by simpa using hid)]
theorem Facts.stays(tr:Facts P ow wf n ops base sk hk vk lt br){S:Nat→Bool}{i:Nat}{ob:AObj}{o:Oper}(r:Rdy ops S i o)(hd:DOk3 ops)(hl:lt i=some (base+i,ob)): ∀ d,i+1+d≤MB br ops S→(hk (i+1+d)).obj (base+i)=some ob
 |0,hle=>by
  have hil:i<ops.length:=(List.getElem?_eq_some_iff.1 r.at_).1;rw[Nat.add_zero,(tr.kind hil hl).2.1];simp[Heap.set]
 |d+1,hle=>by
  have hil:i<ops.length:=(List.getElem?_eq_some_iff.1 r.at_).1;have hML:=MB_le (br:=br) (ops:=ops) (S:=S);have ih:=Facts.stays tr r hd hl d (by omega);have hjl:i+1+d<ops.length:=by omega
  rw[show i+1+(d+1)=i+1+d+1 by omega];cases hb:br (i+1+d)with
  |true=>
   obtain⟨_,b,_,h1,h2⟩:=tr.step (i+1+d) ops[i+1+d] (List.getElem?_eq_getElem hjl);cases b with
   |false=>rw[(h1 rfl).2.2.2]at hb;simp at hb
   |true=>
    cases hw:isW ow wf ops[i+1+d]with
    |false=>rw[((h2 rfl).2.1 hw).2.2.1]at hb;simp at hb
    |true=>
     rcases(h2 rfl).2.2 hw with h3|h3|h3
     ·obtain ⟨_,_,⟨H',_,_,h4⟩,_⟩:=h3;have hS:=r.closedB tr (by omega) hb;have hk1:base+i∈kx ow ops lt (i+1+d):=by
       refine mem_kx (q:=(base+i,ob)) hil (by omega) (r.not_pre hjl hS) ?_ hl;left;cases hp:Go.AM.pre ops (i+1+d) i with
       |false=>rfl
       |true=>have:=pre_lt3 hd i _ hil hp;omega
      rw[h4];simp only[putL];rw[if_pos ⟨by simpa using hk1,by rw[ih];try rfl⟩];exact ih
     ·rw [h3.1]at hb;simp at hb
     ·rw [h3.1]at hb;simp at hb
  |false=>
   rw[tr.hstep hjl hb];cases hlf:lt (i+1+d)with
   |none=>exact ih
   |some q=>
    simp only[Heap.set];rw[if_neg]
    ·exact ih
    ·intro e
     -- a store into it stands behind it, and before the last one that closes
     rcases tr.ww i (i+1+d) (by omega) hjl (.inr (by rw[hl];try rfl)) (.inr (by rw[hlf];try rfl))with h5|⟨p,q',h5,h6,h7⟩|⟨h5,_⟩|⟨_,h5,_⟩
     ·cases hs:S (i+1+d)with
      |true=>rw[r.not_pre hjl hs]at h5;simp at h5
      |false=>
       obtain⟨_,_,h9⟩:=r.early tr (by omega) hs hlf;omega
     ·rw [hl]at h5;rw[hlf]at h6;simp at h5 h6;subst h5;subst h6;exact h7 e
     ·rw [(tr.kind hil hl).1]at h5;simp at h5
     ·rw [hb]at h5;simp at h5
theorem Rdy.newA(hd:DOk3 ops)(tr:Facts P ow wf n ops base sk hk vk lt br)(h0: ∀ f,(hk 0).obj (base+f)=none){S S':Nat→Bool}{i:Nat}{ob:AObj}{o:Oper}(r:Rdy ops S i o)(hA:isA ow o=true)(hl:lt i=some (base+i,ob))(hs':S' i=true)(ho: ∀ j,j≠i→S' j=S j):
  Hs lt br ops hk S'=(Hs lt br ops hk S).set (base+i) ob∧(Hs lt br ops hk S).obj (base+i)=none:=by
 have hil:i<ops.length:=(List.getElem?_eq_some_iff.1 r.at_).1;have hb:br i=false:=(tr.kind hil hl).1
 -- no change that has been done is of this object
 have oth: ∀ f q,f<ops.length→S f=true→lt f=some q→q.1≠base+i:=by
  intro f q hf hs hlf;have hfi:f≠i:=fun e=>by rw[e,r.new]at hs;simp at hs
  rcases Nat.lt_or_ge i f with h1|h1
  ·exact r.others tr hl f q hf hs hlf h1
  ·rcases (tr.kind hf hlf).2.2 with h2|h2
   ·rw [h2.2];omega
   ·exact fun e=>h2.2 i o (by omega) r.at_ hA e.symm
 have dlO: ∀ f q,f<MB br ops S→S f=false→lt f=some q→q.1=base+i→f=i:=by
  intro f q h1 h2 h3 h4;obtain⟨_,_,h5⟩:=r.early tr h1 h2 h3;omega
 have hX:(Xs lt br ops hk S).obj (base+i)=(hk (MB br ops S)).obj (base+i):=by
  unfold Xs;refine lob_none _ fun f q hf hp hlf=>?_;simp only[Bool.and_eq_true]at hp;exact oth f q hf hp.2 hlf
 rcases Nat.lt_or_ge i (MB br ops S)with hM|hM
 ·have hin:base+i∈dl lt br ops S:=mem_dl.2 ⟨i,_,hil,hM,r.new,hl,rfl⟩;have hnone:(Hs lt br ops hk S).obj (base+i)=none:=by
   unfold Hs;simp only[killL];rw[if_pos (by simpa using hin)]
  refine⟨?_,hnone⟩;have hXX:Xs lt br ops hk S'=Xs lt br ops hk S:=by
   unfold Xs;rw[MB_same hb ho];refine lob_congr _ fun f hf _=>?_;by_cases hfi:f=i
   ·rw [hfi];simp[show ¬ MB br ops S≤i by omega]
   ·rw [ho f hfi]
  have hst:(hk (MB br ops S)).obj (base+i)=some ob:=by
   have:=tr.stays r hd hl (MB br ops S-(i+1)) (by omega)
   rwa [show i+1+(MB br ops S-(i+1))=MB br ops S by omega]at this
  refine heap_ext (by unfold Hs;rw[hXX];try rfl) fun j=>?_;unfold Hs;rw[hXX];simp only[killL,Heap.set];by_cases hj:j=base+i
  ·rw [if_pos hj,if_neg,hj,hX,hst];rw[hj];intro hc;obtain⟨f,q,h1,h2,h3,h4,h5⟩:=mem_dl.1 (by simpa using hc);rw[MB_same hb ho]at h2;by_cases hfi:f=i
   ·rw [hfi,hs']at h3;simp at h3
   ·rw [ho f hfi]at h3;exact hfi (dlO f q h2 h3 h4 h5)
  ·rw [if_neg hj];have e:(dl lt br ops S').contains j=(dl lt br ops S).contains j:=by
    rw[Bool.eq_iff_iff,List.contains_iff_mem,List.contains_iff_mem,mem_dl,mem_dl,MB_same hb ho];constructor
    ·rintro ⟨f,q,h1,h2,h3,h4,h5⟩;have hfi:f≠i:=fun e=>(by rw[e,hs']at h3;simp at h3);exact⟨f,q,h1,h2,by rw[← ho f hfi];exact h3,h4,h5⟩
    ·rintro ⟨f,q,h1,h2,h3,h4,h5⟩;have hfi:f≠i:=fun e=>by
      rw[e,hl]at h4;simp at h4;rw[← h4]at h5;exact hj h5.symm
     exact⟨f,q,h1,h2,by rw[ho f hfi];exact h3,h4,h5⟩
   rw[e]
 ·have hnd:base+i ∉ dl lt br ops S:=by
   intro hc;obtain⟨f,q,h1,h2,h3,h4,h5⟩:=mem_dl.1 hc;have:=dlO f q h2 h3 h4 h5;omega
  refine⟨r.light tr hl hM hnd hs' ho,?_⟩;unfold Hs;simp only[killL];rw[if_neg (by simpa using hnd),hX];exact tr.noneH h0 _ MB_le i o hM r.at_ hA
theorem Rdy.stored(tr:Facts P ow wf n ops base sk hk vk lt br){S:Nat→Bool}{i id:Nat}{ob:AObj}{o:Oper}(r:Rdy ops S i o)(hA:isA ow o=false)(hl:lt i=some (id,ob)):
  MB br ops S≤i∧id ∉ dl lt br ops S∧(Hs lt br ops hk S).obj id=(hk i).obj id:=by
 have hil:i<ops.length:=(List.getElem?_eq_some_iff.1 r.at_).1;have hb:br i=false:=(tr.kind hil hl).1;have hM:=r.mb tr (.inr ⟨by rw[hl];try rfl,hA⟩);have ord: ∀ f q,f<i→lt f=some q→q.1=id→S f=true:=by
  intro f q hf hlf he;rcases tr.ww f i hf hil (.inr (by rw[hlf];try rfl)) (.inr (by rw[hl];try rfl))with h6|⟨p,q',h6,h7,h8⟩|⟨h6,_⟩|⟨_,h6,_⟩
  ·exact r.bef h6
  ·rw [hlf]at h6;rw[hl]at h7;simp at h6 h7;subst h6;subst h7;exact(h8 he).elim
  ·rw [tr.excl (by omega) h6]at hlf;simp at hlf
  ·rw [hb]at h6;simp at h6
 have hnd:id ∉ dl lt br ops S:=by
  intro hc;obtain⟨f,q,h1,h2,h3,h4,h5⟩:=mem_dl.1 hc;rw[ord f q (by omega) h4 h5]at h3;simp at h3
 refine⟨hM,hnd,?_⟩;have hnb: ∀ b,MB br ops S≤b→b<i→br b=false:=by
  intro b h1 h2;cases hbb:br b with
  |false=>rfl
  |true=>
   rcases tr.ww b i h2 hil (.inl hbb) (.inr (by rw[hl];try rfl))with h5|⟨p,q,h5,_,_⟩|⟨_,_,o2,h5,h6⟩|⟨h5,_⟩
   ·rw [MB_spec h1 (by omega) (r.bef h5)]at hbb;simp at hbb
   ·rw [tr.excl (by omega) hbb]at h5;simp at h5
   ·rw [r.at_]at h5;simp at h5;subst h5;rw[hA]at h6;simp at h6
   ·rw [tr.excl (by omega) hbb]at h5;simp at h5
 unfold Hs;simp only[killL];rw[if_neg (by simpa using hnd),tr.segL hM (by omega) hnb];unfold Xs;refine lob_obj _ fun f q hf hlf he=>?_;by_cases hMf:MB br ops S≤f
 ·rcases Nat.lt_trichotomy f i with h5|h5|h5
  ·simp only[ord f q h5 hlf he,h5,decide_true,Bool.and_true]
  ·rw [h5];simp only[r.new,Bool.and_false,Nat.lt_irrefl,decide_false]
  ·have hsf:S f=false:=by
    cases hx2:S f with
    |false=>rfl
    |true=>exact(r.others tr hl f q hf hx2 hlf h5 he).elim
   simp only[hsf,show ¬ f<i by omega,decide_false,Bool.and_false]
 ·simp only[hMf,decide_false,Bool.false_and]
theorem lob_obj2{p:Nat→Bool}{H H':Heap}{id:Nat}: ∀ m,(∃ f x,f<m∧p f=true∧lt f=some x∧x.1=id)→(lob lt p H m).obj id=(lob lt p H' m).obj id∧((lob lt p H m).obj id).isSome=true
 |0,⟨f,_,hf,_⟩=>by omega
 |m+1,⟨f,x,hf,hp,hl,he⟩=>by
  rw[lob_succ,lob_succ];by_cases hfm:f=m
  ·subst hfm;rw[hl];simp only[hp,if_true];simp[Heap.set,he]
  ·have ih:=lob_obj2 (H:=H) (H':=H') m ⟨f,x,by omega,hp,hl,he⟩;cases hlm:lt m with
   |none=>exact ih
   |some y=>
    simp only;split
    ·by_cases hy:id=y.1
     ·simp [Heap.set,hy]
     ·simp only[Heap.set,hy,if_false];exact ih
    ·exact ih
theorem Rdy.barrier(hd:DOk3 ops)(tr:Facts P ow wf n ops base sk hk vk lt br)(h0: ∀ f,(hk 0).obj (base+f)=none){S S':Nat→Bool}{i:Nat}{o:Oper}(r:Rdy ops S i o)(hb:br i=true){H':Heap}(hH: ∀ id∈kx ow ops lt i,H'.obj id=none)(hki1:hk (i+1)=putL H' (hk i) (kx ow ops lt i))(hs':S' i=true)(ho: ∀ j,j≠i→S' j=S j):
  killL (Hs lt br ops hk S) (kx ow ops lt i)=killL (hk i) (kx ow ops lt i)∧putL H' (Hs lt br ops hk S) (kx ow ops lt i)=Hs lt br ops hk S':=by
 have hil:i<ops.length:=(List.getElem?_eq_some_iff.1 r.at_).1;have hli:lt i=none:=tr.excl hil hb;have hM:=r.mb tr (.inl hb);have hnb: ∀ b,MB br ops S≤b→b<i→br b=false:=by
  intro b h1 h2;cases hbb:br b with
  |false=>rfl
  |true=>
   rcases tr.ww b i h2 hil (.inl hbb) (.inl hb)with h5|⟨p,q,_,h5,_⟩|⟨_,h5,_⟩|⟨h5,_⟩
   ·rw [MB_spec h1 (by omega) (r.bef h5)]at hbb;simp at hbb
   ·rw [hli]at h5;simp at h5
   ·rw [hli]at h5;simp at h5
   ·rw [tr.excl (by omega) hbb]at h5;simp at h5
 have hki:=tr.segL hM (by omega) hnb
 -- the changes apart from this one
 have inK: ∀ f q,f<ops.length→lt f=some q→(f<i→S f=false)→(i<f→S f=true)→q.1∈kx ow ops lt i:=by
  intro f q hf hl h1 h2;have hne:i≠f:=fun e=>by rw[← e,hli]at hl;simp at hl
  rcases Nat.lt_or_ge f i with h3|h3
  ·refine mem_kx hf hne ?_ (.inl ?_) hl
   ·cases hp:Go.AM.pre ops f i with
    |false=>rfl
    |true=>have:=r.bef hp;rw[h1 h3]at this;simp at this
   ·cases hp:Go.AM.pre ops i f with
    |false=>rfl
    |true=>have:=pre_lt3 hd f i hf hp;omega
  ·refine mem_kx hf hne ?_ (.inl (r.not_pre hf (h2 (by omega)))) hl;cases hp:Go.AM.pre ops f i with
   |false=>rfl
   |true=>have:=pre_lt3 hd i f hil hp;omega
 have kxA: ∀ id∈kx ow ops lt i, ∃ f q, ∃ hf:f<ops.length,f≠i∧isA ow ops[f]=true∧lt f=some q∧q.1=id∧id=base+f∧Go.AM.pre ops f i=false:=by
  intro id hid;obtain⟨f,q,hf,h2,h3,h4,h5,h6⟩:=kx_mem hid;have hA:isA ow ops[f]=true:=by
   rcases h4 with h4|h4
   ·rcases Nat.lt_trichotomy f i with h7|h7|h7
    ·rcases tr.ww f i h7 hil (.inr (by rw[h5];try rfl)) (.inl hb)with h8|⟨_,_,_,h8,_⟩|⟨_,h8,_⟩|⟨_,_,o2,h8,h9⟩
     ·rw [h8]at h3;simp at h3
     ·rw [hli]at h8;simp at h8
     ·rw [hli]at h8;simp at h8
     ·rw [List.getElem?_eq_getElem hf]at h8;simp at h8;rw[h8];exact h9
    ·exact (h2 h7.symm).elim
    ·rcases tr.ww i f h7 hf (.inl hb) (.inr (by rw[h5];try rfl))with h8|⟨_,_,h8,_⟩|⟨_,_,o2,h8,h9⟩|⟨h8,_⟩
     ·rw [h8]at h4;simp at h4
     ·rw [hli]at h8;simp at h8
     ·rw [List.getElem?_eq_getElem hf]at h8;simp at h8;rw[h8];exact h9
     ·rw [hli]at h8;simp at h8
   ·exact h4
  rcases(tr.kind hf h5).2.2 with h7|h7
  ·exact ⟨f,q,hf,fun e=>h2 e.symm,hA,h5,h6,by rw[← h6];exact h7.2,h3⟩
  ·rw [h7.1]at hA;simp at hA
 -- a change of such an object is that one, or stands behind this operation
 have uniq: ∀ f q g x,(hf:f<ops.length)→isA ow ops[f]=true→lt f=some q→q.1=base+f→Go.AM.pre ops f i=false→(hg:g<ops.length)→lt g=some x→x.1=base+f→g≠f→i<g∧S g=false:=by
  intro f q g x hf hfA hlf hq hpf hg hlg hx hgf;have hgA:isA ow ops[g]=false:=by
   rcases(tr.kind hg hlg).2.2 with h1|h1
   ·rw [h1.2]at hx;omega
   ·exact h1.1
  have hfg:f<g:=by
   rcases Nat.lt_or_ge g f with h1|h1
   ·rcases (tr.kind hg hlg).2.2 with h3|h3
    ·rw [h3.1]at hgA;simp at hgA
    ·exact (h3.2 f ops[f] (by omega) (List.getElem?_eq_getElem hf) hfA (by rw[hx])).elim
   ·omega
  have hpre:Go.AM.pre ops f g=true:=by
   rcases tr.ww f g hfg hg (.inr (by rw[hlf];try rfl)) (.inr (by rw[hlg];try rfl))with h5|⟨p,q',h5,h6,h7⟩|⟨h5,_⟩|⟨_,h5,_⟩
   ·exact h5
   ·rw [hlf]at h5;rw[hlg]at h6;simp at h5 h6;subst h5;subst h6;exact(h7 (by rw[hq,hx])).elim
   ·rw [tr.excl hf h5]at hlf;simp at hlf
   ·rw [tr.excl hg h5]at hlg;simp at hlg
  have hgi:g≠i:=fun e=>by rw[e,hli]at hlg;simp at hlg
  have hig:i<g:=by
   rcases Nat.lt_or_ge i g with h1|h1
   ·exact h1
   ·rcases tr.ww g i (by omega) hil (.inr (by rw[hlg];try rfl)) (.inl hb)with h8|⟨_,_,_,h8,_⟩|⟨_,h8,_⟩|⟨_,_,o2,h8,h9⟩
    ·rw [pre_trans hd i hil hpre h8]at hpf;simp at hpf
    ·rw [hli]at h8;simp at h8
    ·rw [hli]at h8;simp at h8
    ·rw [List.getElem?_eq_getElem hg]at h8;simp at h8;rw[h8,h9]at hgA;simp at hgA
  refine⟨hig,?_⟩;cases hsg:S g with
  |false=>rfl
  |true=>
   rcases tr.ww i g hig hg (.inl hb) (.inr (by rw[hlg];try rfl))with h8|⟨_,_,h8,_⟩|⟨_,_,o2,h8,h9⟩|⟨h8,_⟩
   ·rw [r.not_pre hg hsg]at h8;simp at h8
   ·rw [hli]at h8;simp at h8
   ·rw [List.getElem?_eq_getElem hg]at h8;simp at h8;rw[h8,h9]at hgA;simp at hgA
   ·rw [hli]at h8;simp at h8
 refine⟨?_,?_⟩
 ·unfold Hs;rw[kill_kill (r.dl_kx tr hli)];unfold Xs;rw[hki];refine lob_kill _ fun f q hf hl=>?_;by_cases hMf:MB br ops S≤f
  ·simp only[hMf,decide_true,Bool.true_and];have hne:f≠i:=fun e=>(by rw[e,hli]at hl;simp at hl);cases hs:S f with
   |true=>
    rcases Nat.lt_or_ge f i with h1|h1
    ·exact .inl (by simp[h1])
    ·exact .inr (inK f q hf hl (fun h2=>by omega) (fun _=>hs))
   |false=>
    rcases Nat.lt_or_ge f i with h1|h1
    ·exact .inr (inK f q hf hl (fun _=>hs) (fun h2=>by omega))
    ·exact .inl (by simp;omega)
  ·exact .inl (by simp[hMf])
 ·have hMS:MB br ops S'=i+1:=by
   unfold MB;refine lastOf_eq (by omega) (.inr ⟨i,rfl,by rw[hs',hb];try rfl⟩) fun j h1 h2=>?_;cases hsj:S' j with
   |false=>rfl
   |true=>
    rw[ho j (by omega)]at hsj;have:=MB_spec (br:=br) (by omega:MB br ops S≤j) h2 hsj;simp[this]
  have hXn:(Xs lt br ops hk S').next=H'.next:=by unfold Xs;rw[lob_next,hMS,hki1];try rfl
  refine heap_ext (by unfold Hs;simp only[killL,putL];exact hXn.symm) fun id=>?_
  -- what S' has not done yet, by its own numbers
  have dl':id∈dl lt br ops S'↔ ∃ g x,g<ops.length∧g<i∧S g=false∧lt g=some x∧x.1=id:=by
   rw[mem_dl,hMS];constructor
   ·rintro ⟨g,x,h1,h2,h3,h4,h5⟩;have hgi:g≠i:=fun e=>(by rw[e,hli]at h4;simp at h4);exact⟨g,x,h1,by omega,by rw[← ho g hgi];exact h3,h4,h5⟩
   ·rintro ⟨g,x,h1,h2,h3,h4,h5⟩;exact⟨g,x,h1,by omega,by rw[ho g (by omega)];exact h3,h4,h5⟩
  by_cases hid:id∈kx ow ops lt i
  ·obtain ⟨f,q,hf,hne,hA,hlf,hq,hbase,hpf⟩:=kxA id hid;have hu: ∀ g x,g<ops.length→lt g=some x→x.1=id→g≠f→i<g∧S g=false:=fun g x h1 h2 h3 h4=>uniq f q g x hf hA hlf (by rw[hq,hbase]) hpf h1 h2 (by rw[h3,hbase]) h4;have hL:(putL H' (Hs lt br ops hk S) (kx ow ops lt i)).obj id=(Hs lt br ops hk S).obj id:=by
    simp only[putL];cases hx:(Hs lt br ops hk S).obj id with
    |none=>simp[hH id hid]
    |some o2=>simp[hid]
   rw[hL];cases hsf:S f with
   |true=>
    have n1:id ∉ dl lt br ops S:=fun hc=>by
     obtain⟨g,x,h1,h2,h3,h4,h5⟩:=mem_dl.1 hc;by_cases hgf:g=f
     ·rw [hgf,hsf]at h3;simp at h3
     ·have:=(hu g x h1 h4 h5 hgf).1;omega
    have n2:id ∉ dl lt br ops S':=fun hc=>by
     obtain⟨g,x,h1,h2,h3,h4,h5⟩:=dl'.1 hc;by_cases hgf:g=f
     ·rw [hgf,hsf]at h3;simp at h3
     ·have:=(hu g x h1 h4 h5 hgf).1;omega
    unfold Hs;simp only[killL];rw[if_neg (by simpa using n1),if_neg (by simpa using n2)];unfold Xs;rcases Nat.lt_or_ge f i with h1|h1
    ·rw [lob_none (p:=fun f=>decide (MB br ops S'≤f)&&S' f) _ (fun g x h2 h3 h4 h5=>?_),hMS,hki1]
     ·have h6:(putL H' (hk i) (kx ow ops lt i)).obj id=(hk i).obj id:=by
       simp only[putL];cases hx:(hk i).obj id with
       |none=>simp[hH id hid]
       |some o2=>simp[hid]
      rw[h6,hki];refine lob_obj _ fun g x h2 h3 h4=>?_;by_cases hgf:g=f
      ·rw [hgf,hsf];simp[h1]
      ·obtain ⟨k1,k2⟩:=hu g x h2 h3 h4 hgf;rw[k2];simp;omega
     ·rw [hMS]at h3;simp only[Bool.and_eq_true,decide_eq_true_eq]at h3;by_cases hgf:g=f
      ·omega
      ·have:=(hu g x h2 h4 h5 hgf).2;rw[ho g (by omega),this]at h3;simp at h3
    ·have hfi:i<f:=(by omega);have e1:(lob lt (fun f=>decide (MB br ops S≤f)&&S f) (hk (MB br ops S)) ops.length).obj id=(lob lt (fun f=>decide (MB br ops S'≤f)&&S' f) (hk (MB br ops S)) ops.length).obj id:=by
      refine lob_obj _ fun g x h2 h3 h4=>?_;rw[hMS];by_cases hgf:g=f
      ·rw [hgf,ho f hne,hsf];simp;omega
      ·obtain ⟨k1,k2⟩:=hu g x h2 h3 h4 hgf;rw[ho g (by omega),k2];simp
     rw[e1];refine(lob_obj2 _ ⟨f,q,hf,?_,hlf,hq⟩).1;rw[hMS,ho f hne,hsf];simp;omega
   |false=>
    have no: ∀ g x,g<ops.length→lt g=some x→x.1=id→S g=false:=fun g x h1 h2 h3=>by
     by_cases hgf:g=f
     ·rw [hgf];exact hsf
     ·exact (hu g x h1 h2 h3 hgf).2
    have l1:(Hs lt br ops hk S).obj id=none:=by
     unfold Hs;simp only[killL];split
     ·rfl
     ·rename_i hc;rcases Nat.lt_or_ge f (MB br ops S)with h1|h1
      ·exact (hc (by simpa using mem_dl.2 ⟨f,q,hf,h1,hsf,hlf,hq⟩)).elim
      ·unfold Xs;rw[lob_none _ (fun g x h2 h3 h4 h5=>by
        simp only[Bool.and_eq_true]at h3;rw[no g x h2 h4 h5]at h3;simp at h3)]
       rw[hbase];exact tr.noneH h0 _ MB_le f ops[f] h1 (List.getElem?_eq_getElem hf) hA
    rw[l1];unfold Hs;simp only[killL];split
    ·rfl
    ·rename_i hc;rcases Nat.lt_or_ge f i with h1|h1
     ·exact (hc (by simpa using dl'.2 ⟨f,q,hf,h1,hsf,hlf,hq⟩)).elim
     ·unfold Xs;rw[lob_none _ (fun g x h2 h3 h4 h5=>by
       rw[hMS]at h3;simp only[Bool.and_eq_true,decide_eq_true_eq]at h3;rw[ho g (by omega),no g x h2 h4 h5]at h3;simp at h3)]
      rw[hMS,hbase];exact(tr.noneH h0 (i+1) (by omega) f ops[f] (by omega) (List.getElem?_eq_getElem hf) hA).symm
  ·have n2:id ∉ dl lt br ops S':=fun hc=>by
    obtain⟨g,x,h1,h2,h3,h4,h5⟩:=dl'.1 hc;exact hid (by rw[← h5];exact inK g x h1 h4 (fun _=>h3) (fun h6=>by omega))
   have hL:(putL H' (Hs lt br ops hk S) (kx ow ops lt i)).obj id=H'.obj id:=by
    simp only[putL];rw[if_neg (fun hc=>hid (by simpa using hc.1))]
   rw[hL];unfold Hs;simp only[killL];rw[if_neg (by simpa using n2)];unfold Xs;rw[lob_none _ (fun g x h2 h3 h4 h5=>by
    rw[hMS]at h3;simp only[Bool.and_eq_true,decide_eq_true_eq]at h3;rw[ho g (by omega)]at h3;exact hid (by rw[← h5];exact inK g x h2 h4 (fun h6=>by omega) (fun _=>h3.2)))]
   rw[hMS,hki1];simp only[putL];rw[if_neg (fun hc=>hid (by simpa using hc.1))]
end
end Go.AM
namespace Go.AM
section
variable {P:Program}{ow:Nat→Bool}{wf:FuncId→Bool}{n:Nat}{ops:List Oper}{base:Nat}{sk:Nat→Slots}{hk:Nat→Heap}{vk:Nat→PV}{lt:Nat→Option (Nat × AObj)}{br:Nat→Bool}
theorem kill_nil{H:Heap}:killL H []=H:=heap_ext rfl fun j=>by simp[killL]
theorem any_sound3(hd:DOk3 ops)(tr:Facts P ow wf n ops base sk hk vk lt br)(h0: ∀ f,(hk 0).obj (base+f)=none){K:Slots→Heap→Prop}(hK:K (sk ops.length) (hk ops.length)){β0:Env}{hb:Heap}{w0:World}(hbn:hb.next≤base){Q:Exit→Act→World→Prop}
  (hk': ∀ a' w',To n β0 hb w0 K a' w'→Q .normal a' w'):
  ∀ (fuel:Nat)(listed:Array Bool)(β:Env)(a:Act)(w:World),listed.size=ops.length→Closed ops (fun j=>listed.getD j false)→miss (fun j=>listed.getD j false) ops.length≤fuel→
   St n β (valS ops sk fun j=>listed.getD j false) (Hs lt br ops hk fun j=>listed.getD j false) a w→
   Ext β0 hb w0 β (Hs lt br ops hk fun j=>listed.getD j false) w→
   base+ops.length≤(Hs lt br ops hk fun j=>listed.getD j false).next→
   (∀ f,f<ops.length→listed.getD f false=false→(β (base+f)).b=none)→wpAny P .any ops.toArray Q fuel listed a w:=by
 have fin: ∀ (listed:Array Bool)(β:Env)(a:Act)(w:World),(∀ j,j<ops.length→listed.getD j false=true)→
   St n β (valS ops sk fun j=>listed.getD j false) (Hs lt br ops hk fun j=>listed.getD j false) a w→
   Ext β0 hb w0 β (Hs lt br ops hk fun j=>listed.getD j false) w→Q .normal a w:=by
  intro listed β a w hall st ex;have e1:valS ops sk (fun j=>listed.getD j false)=sk ops.length:=by
   funext t;obtain⟨h1,h2,h3⟩:=lastOf_spec (fun j=>listed.getD j false&&wrB ops t j) ops.length;unfold valS;generalize lastOf (fun j=>listed.getD j false&&wrB ops t j) ops.length=m at*;have:=tr.slot_const (t:=t) (i:=m) (ops.length-m) (by omega) (fun j h5 h6=>by
    have:=h3 j h5 (by omega);rw[hall j (by omega),Bool.true_and]at this;exact this)
   rw[show m+(ops.length-m)=ops.length by omega]at this;exact this.symm
  have e2:Hs lt br ops hk (fun j=>listed.getD j false)=hk ops.length:=by
   have hM:MB br ops (fun j=>listed.getD j false)≤ops.length:=MB_le;have h1:=tr.seg (M:=MB br ops (fun j=>listed.getD j false)) (ops.length-MB br ops (fun j=>listed.getD j false)) (by omega) (fun j a c=>MB_spec a (by omega) (hall j (by omega)));rw[show MB br ops (fun j=>listed.getD j false)+(ops.length-MB br ops (fun j=>listed.getD j false))=ops.length by omega]at h1;have hdl:dl lt br ops (fun j=>listed.getD j false)=[]:=by
    apply List.eq_nil_iff_forall_not_mem.2;intro id hid;obtain⟨f,q,k1,k2,k3,_⟩:=mem_dl.1 hid;have hh:listed.getD f false=true:=hall f k1;simp only[hh]at k3;simp at k3
   unfold Hs;rw[hdl,h1,kill_nil];unfold Xs;exact lob_congr _ fun f hf _=>by
    have hh:listed.getD f false=true:=hall f hf;simp only[hh,Bool.and_true]
  rw[e1,e2]at st;rw[e2]at ex;exact hk' a w ⟨_,_,β,hK,st,ex⟩
 have rdy: ∀ (listed:Array Bool)(i:Nat),listed.size=ops.length→Closed ops (fun j=>listed.getD j false)→i∈Region.ready .any ops.toArray listed→ ∃ o,Rdy ops (fun j=>listed.getD j false) i o:=by
  intro listed i hsz hc hi;simp only[Region.ready,List.mem_filter,List.mem_range,List.size_toArray,Bool.and_eq_true,Bool.not_eq_true',List.getElem?_toArray]at hi;obtain⟨h1,h2,h3⟩:=hi;rw[List.getElem?_eq_getElem h1]at h3;simp only[Option.map_some,Option.getD_some,Array.all_eq_true_iff_forall_mem,Bool.or_eq_true,Bool.not_eq_true']at h3;refine⟨_,List.getElem?_eq_getElem h1,?_,hc,fun e he hb=>?_⟩
  ·rw [Array.getD_eq_getD_getElem?,Array.getElem?_eq_getElem (by omega)]at h2⊢;simpa using h2
  ·rcases h3 e (Array.mem_toList_iff.1 he)with h4|h4
   ·rw [hb]at h4;simp at h4
   ·exact h4
 have noRdy: ∀ (listed:Array Bool),listed.size=ops.length→Region.ready .any ops.toArray listed=[]→ ∀ j,j<ops.length→listed.getD j false=true:=by
  intro listed hsz hr j
  induction j using Nat.strongRecOn with
  |_ j ih=>
   intro hj;cases hs:listed.getD j false with
   |true=>rfl
   |false=>
    have hm:j∈Region.ready .any ops.toArray listed:=by
     simp only[Region.ready,List.mem_filter,List.mem_range,List.size_toArray,Bool.and_eq_true,Bool.not_eq_true',List.getElem?_toArray];refine⟨hj,?_,?_⟩
     ·rw [Array.getD_eq_getD_getElem?,Array.getElem?_eq_getElem (by omega)]at hs⊢;simpa using hs
     ·rw [List.getElem?_eq_getElem hj];simp only[Option.map_some,Option.getD_some,Array.all_eq_true_iff_forall_mem,Bool.or_eq_true,Bool.not_eq_true'];intro e he;cases hb:Region.binds .any e with
      |false=>exact .inl rfl
      |true=>
       have hlt:=hd.back j _ (List.getElem?_eq_getElem hj) e (Array.mem_toList_iff.2 he) hb;exact .inr (ih e.on hlt (by omega))
    rw[hr]at hm;simp at hm
 intro fuel
 induction fuel with
 |zero=>
  intro listed β a w hsz hc hm st ex hnx hho;have hall:=all_of_miss (S:=fun j=>listed.getD j false) ops.length (by omega);refine⟨?_,fin listed β a w hall st ex⟩;apply List.eq_nil_iff_forall_not_mem.2;intro i hi;obtain⟨o,r⟩:=rdy listed i hsz hc hi;have:=hall i (List.getElem?_eq_some_iff.1 r.at_).1;have hn:=r.new;rw[this]at hn;simp at hn
 |succ fuel ih=>
  intro listed β a w hsz hc hm st ex hnx hho;refine⟨fun hr=>fin listed β a w (noRdy listed hsz hr) st ex,fun i hi=>?_⟩;obtain⟨o,r⟩:=rdy listed i hsz hc hi;have hil:i<ops.length:=(List.getElem?_eq_some_iff.1 r.at_).1;have hs':(listed.setIfInBounds i true).getD i false=true:=by
   rw[Array.getD_eq_getD_getElem?,Array.getElem?_setIfInBounds_self_of_lt (by omega)];try rfl
  have ho: ∀ j,j≠i→(listed.setIfInBounds i true).getD j false=listed.getD j false:=by
   intro j hj;rw[Array.getD_eq_getD_getElem?,Array.getElem?_setIfInBounds_ne (Ne.symm hj), ← Array.getD_eq_getD_getElem?]
  have hc':Closed ops (fun j=>(listed.setIfInBounds i true).getD j false):=by
   intro j q hq hj e he hb;by_cases heq:e.on=i
   ·simp only[heq];exact hs'
   ·simp only;rw[ho _ heq];by_cases hji:j=i
    ·subst hji;have:=r.at_;rw[hq]at this;simp at this;subst this;exact r.before e he hb
    ·simp only at hj;rw[ho j hji]at hj;exact hc j q hq hj e he hb
  have hm':miss (fun j=>(listed.setIfInBounds i true).getD j false) ops.length≤fuel:=by
   have:=miss_set (S:=fun j=>listed.getD j false) (S':=fun j=>(listed.setIfInBounds i true).getD j false) r.new hs' (fun j hj=>(ho j hj).symm) ops.length hil;omega
  obtain⟨hdst,b,hb,hb1,hb2⟩:=tr.step i o r.at_;have hlook: ∀ t,t∈looks ops o→valS ops sk (fun j=>listed.getD j false) t=sk i t:=fun t ht=>r.slot3 hd tr ht;have hwant:=wanted_sound st (o:=o) (ops:=ops) (by rw[wantedB_congr hlook];exact hb);have hnext:=fun{x:PV}(hx:sk (i+1)=updO (sk i) o.dst x)=>r.next3 (S':=fun j=>(listed.setIfInBounds i true).getD j false) hd tr hs' ho hx;have ho2: ∀ j,j≠i→(fun j=>(listed.setIfInBounds i true).getD j false) j=(fun j=>listed.getD j false) j:=ho;have hho': ∀ f,f<ops.length→(listed.setIfInBounds i true).getD f false=false→f≠i∧(β (base+f)).b=none:=by
   intro f hf hfs;by_cases hfi:f=i
   ·rw [hfi,hs']at hfs;simp at hfs
   ·exact ⟨hfi,hho f hf (by rw[← ho f hfi];exact hfs)⟩
  unfold wpOp;simp only[List.getElem?_toArray,r.at_];rw[hwant];cases b with
  |false=>
   obtain⟨e1,e2,e3,e4⟩:=hb1 rfl;simp only[Bool.false_eq_true,if_false];have st':=st.undef (d:=o.dst) hdst;rw[hnext e1]at st';have eh:=Hs_same (lt:=lt) (br:=br) (ops:=ops) (hk:=hk) e4 e3 ho2;exact ih _ β _ w (by simpa using hsz) hc' hm' (by rw[eh];exact st') (by rw[eh];exact ex) (by rw[eh];exact hnx) (fun f hf hfs=>(hho' f hf hfs).2)
  |true=>
   obtain⟨e1,e2,e3⟩:=hb2 rfl;simp only[if_true];left;have hops: ∀ t,.tmp t∈o.op.operands→sk i t=valS ops sk (fun j=>listed.getD j false) t:=fun t ht=>(hlook t (by
    simp only[looks,List.mem_append,List.mem_filterMap];exact .inl (.inl ⟨.tmp t,Array.mem_toList_iff.2 ht,rfl⟩))).symm
   have fromTo: ∀ (β'':Env)(a':Act)(w':World),St n β'' (valS ops sk fun j=>(listed.setIfInBounds i true).getD j false) (Hs lt br ops hk fun j=>(listed.setIfInBounds i true).getD j false) a' w'→Ext β (Hs lt br ops hk fun j=>listed.getD j false) w β'' (Hs lt br ops hk fun j=>(listed.setIfInBounds i true).getD j false) w'→wpAny P .any ops.toArray Q fuel (listed.setIfInBounds i true) a' w':=by
    intro β'' a' w' st'' ex'';refine ih _ β'' a' w' (by simpa using hsz) hc' hm' st'' (ex.trans ex'') (Nat.le_trans hnx ex''.next) (fun f hf hfs=>?_);rw[ex''.beta _ (by omega)];exact(hho' f hf hfs).2
   cases hiw:isW ow wf o with
   |false=>
    obtain⟨g1,g2,g3,g4⟩:=e2 hiw;obtain⟨q1,q2⟩:=r.quiet hd tr g2;obtain⟨ll,hll,hdo⟩:=g4 _ q1;have q2:=q2 ll hll;have eh:=Hs_same (lt:=lt) (br:=br) (ops:=ops) (hk:=hk) g3 g2 ho2;obtain⟨βX,stX,back⟩:=St.hidesK st.sim.lt ll st;rw[q2]at stX back;refine Does.wp stX hdst (Does_congr hops hdo) (fun a' w' ht=>?_);obtain⟨s',h',β',⟨rfl,rfl⟩,st',ex'⟩:=ht;obtain⟨β'',st'',ex''⟩:=back β' _ _ a' w' st' ex' (fun j hj _=>by simp only[gx,killL];rw[if_pos (by simpa using hj)]);rw[← q2,putL_killL]at st'' ex'';rw[hnext e1]at st'';exact fromTo β'' a' w' (by rw[eh];exact st'') (by rw[eh];exact ex'')
   |true=>
    rcases e3 hiw with⟨g1,g2,hdo,g4⟩|⟨g1,hA,ob,g2,g3,g4⟩|⟨g1,t,x,y,id,rr,ff,ob,hop,hx,g2,g3,g4,g5⟩
    ·obtain ⟨H',hdo,hH,hk1⟩:=hdo;obtain⟨q1,q3⟩:=r.barrier (S':=fun j=>(listed.setIfInBounds i true).getD j false) hd tr h0 g1 hH hk1 hs' ho2;obtain⟨βX,stX,back⟩:=St.hidesK st.sim.lt (kx ow ops lt i) st;rw[q1]at stX back;refine Does.wp stX hdst (Does_congr hops hdo) (fun a' w' ht=>?_);obtain⟨s',h',β',⟨rfl,rfl⟩,st',ex'⟩:=ht;obtain⟨β'',st'',ex''⟩:=back β' _ _ a' w' st' ex' (fun j hj _=>hH j hj);rw[q3]at st'' ex'';rw[hnext e1]at st'';exact fromTo β'' a' w' st'' ex''
    ·obtain ⟨eh,hno⟩:=r.newA (S':=fun j=>(listed.setIfInBounds i true).getD j false) hd tr h0 hA g2 hs' ho2;have g3':aop P ow (base+i) o (pev (valS ops sk fun j=>listed.getD j false))=some (vk i,ob):=by
      rw[← g3];unfold aop;rw[eff_congr hops]
     refine St.floatA hA g3' (show base+i<_ by omega) hno (hho i hil r.new) st hdst fun β' a' w' st' hbeta hos htape hout hsize hX hmem hfz=>?_;rw[hnext e1, ← eh]at st';have hrn:(Hs lt br ops hk fun j=>(listed.setIfInBounds i true).getD j false).next=(Hs lt br ops hk fun j=>listed.getD j false).next:=by rw[eh];try rfl
     refine ih _ β' a' w' (by simpa using hsz) hc' hm' st' ?_ (by rw[hrn];exact hnx) (fun f hf hfs=>?_)
     ·refine ⟨hos.trans ex.os,htape.trans ex.tape,hout.1.trans ex.output,Nat.le_trans ex.size hsize,by rw[hrn];exact ex.next,fun id hid=>?_,hX.trans ex.X,fun c hc hl=>?_,fun c hc=>?_,Nat.le_trans ex.drawn hout.2⟩
      ·have:=ex.next
       rw[hbeta id (by omega) (by omega)];exact ex.beta id hid
      ·rw [hmem c (by rw[ex.X];exact hc) (Nat.lt_of_lt_of_le hl ex.size)];exact ex.xh c hc hl
      ·obtain ⟨k1,k2⟩:=ex.fz c hc;obtain⟨k3,k4⟩:=hfz c k1;rw[← eh]at k3;exact⟨k3,k4.trans k2⟩
     ·obtain ⟨k1,k2⟩:=hho' f hf hfs;rw[hbeta _ (by omega) (by omega)];exact k2
    ·have hnA:isA ow o=false:=(by unfold isA;rw[hop]);obtain⟨hM,hnd,hobj⟩:=r.stored tr hnA g2;have eh:=r.light (S':=fun j=>(listed.setIfInBounds i true).getD j false) tr g2 hM hnd hs' ho2;have hdo:Does P ow o (pev (sk i)) (Hs lt br ops hk fun j=>listed.getD j false) (vk i) ((Hs lt br ops hk fun j=>listed.getD j false).set id ob):=by
      unfold Does;rw[hop,g3]at g5;rw[hop];exact store_local hx g5 hobj
     refine Does.wp st hdst (Does_congr hops hdo) (fun a' w' ht=>?_);obtain⟨s',h',β',⟨rfl,rfl⟩,st',ex'⟩:=ht;rw[← eh]at st' ex';rw[hnext e1]at st';exact fromTo β' a' w' st' ex'
theorem dwp3_sound{id:Nat}(hm:P.follows .mixedOrders=true){β:Env}{s:Slots}{h:Heap}{a:Act}{w:World}{K:Slots→Heap→Prop}{Q:Exit→Act→World→Prop}(st:St n β s h a w)(hw:dwp3 P ow wf n ops K s h)
  (hk': ∀ a' w',To n β h w K a' w'→Q .normal a' w'):(Code.region id ops.toArray true).wp P Q a w:=by
 obtain⟨h1,sk,hk,vk,lt,br,e1,e2,hK,tr⟩:=hw;have hd:=DOk3.of h1;refine wp_region_any hm ?_;obtain⟨s1,s2⟩:=st.sim.drew;have std:St n β s h a w.drew:=⟨s1,fun t=>s2.rep (st.rep t),st.size,st.defers⟩;obtain⟨β0,st0,ex0,hnone0⟩:=std.bump ops.length;have hS: ∀ j,(Array.replicate ops.toArray.size false).getD j false=false:=by
  intro j;rw[Array.getD_eq_getD_getElem?,Array.getElem?_replicate];split<;>rfl
 have emp: ∀ (p:Nat→Bool),(fun j=>((Array.replicate ops.toArray.size false).getD j false&&p j))=fun _=>false:=by
  intro p;funext j;rw[hS];try rfl
 have l0:lastOf (fun _=>false) ops.length=0:=lastOf_eq (Nat.zero_le _) (.inl rfl) (fun _ _ _=>rfl);have hval:valS ops sk (fun j=>(Array.replicate ops.toArray.size false).getD j false)=s:=by
  funext t;unfold valS;rw[emp,l0,e1]
 have hheap:Hs lt br ops hk (fun j=>(Array.replicate ops.toArray.size false).getD j false)=h.bump ops.length:=by
  have hM0:MB br ops (fun j=>(Array.replicate ops.toArray.size false).getD j false)=0:=by unfold MB;rw[emp,l0]
  have hdl:dl lt br ops (fun j=>(Array.replicate ops.toArray.size false).getD j false)=[]:=by
   apply List.eq_nil_iff_forall_not_mem.2;intro id hid;obtain⟨f,q,k1,k2,_⟩:=mem_dl.1 hid;rw[hM0]at k2;omega
  unfold Hs;rw[hdl,kill_nil];unfold Xs;have h2:=lob_hi (lt:=lt) (p:=fun f=>decide (MB br ops (fun j=>(Array.replicate ops.toArray.size false).getD j false)≤f)&&(fun j=>(Array.replicate ops.toArray.size false).getD j false) f) (H:=hk (MB br ops (fun j=>(Array.replicate ops.toArray.size false).getD j false))) (m:=0) ops.length (fun f _ _ _=>by simp only[hS,Bool.and_false]);rw[Nat.zero_add]at h2;rw[h2,hM0];simp only[lob];rw[e2];try rfl
 refine any_sound3 hd tr (fun f=>?_) hK (hb:=h) (β0:=β) (w0:=w) (Nat.le_refl _) hk' _ _ β0 a w.drew (by simp) (fun j o _ hj=>by simp only[hS]at hj;simp at hj) ?_ ?_ ?_ ?_ ?_
 ·rw [e2];cases ho:h.obj (h.next+f)with
  |none=>rfl
  |some o=>have:=st.sim.lt (h.next+f) (by rw[ho];try rfl);omega
 ·have: ∀ m,miss (fun j=>(Array.replicate ops.toArray.size false).getD j false) m≤m:=by
   intro m
   induction m with
   |zero=>exact Nat.le_refl _
   |succ m ih=>unfold miss;split<;>omega
  simpa using this ops.length
 ·rw [hval,hheap];exact st0
 ·rw [hheap];exact s2.trans ex0
 ·rw [hheap];exact Nat.le_refl _
 ·intro f hf _;exact hnone0 _ (by omega)
end
end Go.AM
namespace Go.AM
section
variable {P:Program}{ow:Nat→Bool}{wf:FuncId→Bool}{n:Nat}
def ToE(n:Nat)(β:Env)(h:Heap)(w:World)(K:Post)(e:Exit)(a':Act)(w':World):Prop:=
 ∃ s' h' β',K e s' h'∧St n β' s' h' a' w'∧Ext β h w β' h' w'
def LoopW(P:Program)(c:Code)(Q:Exit→Act→World→Prop):Nat→Act→World→Prop
 |0,_,_=>False
 |k+1,a,w=>c.wp P (Exit.then (LoopW P c Q k) Q) a w
theorem wp_loopW{c:Code}{Q:Exit→Act→World→Prop}{k:Nat}{a:Act}{w:World}(hl:LoopW P c Q k a w):(Code.loop c).wp P Q a w:=by
 have key: ∀ (m:Nat)(a:Act)(w:World),LoopW P c Q m a w→ ∀ (b:Frame)(k:List Item)(cs:List Frame),
   ∃ e a' w',Q e a' w'∧Arrives P (lone (b.at a (.code c:: .inLoop c::k)) cs w) b k cs e a' w':=by
  intro m
  induction m with
  |zero=>intro a w h;exact h.elim
  |succ m ih=>
   intro a w h b k cs;obtain⟨e,a₁,w₁,hq,harr⟩:=h b (.inLoop c::k) cs;cases e with
   |normal=>
    obtain⟨e₂,a₂,w₂,hq₂,harr₂⟩:=ih a₁ w₁ hq b k cs;exact⟨e₂,a₂,w₂,hq₂,.of_steps (Steps.trans harr (.one step_inLoop)) harr₂⟩
   |exit id=>exact⟨_,a₁,w₁,hq,.pass (x:= .inLoop c) rfl (fun _ _=> .inl (by simp)) harr⟩
   |goto l=>exact⟨_,a₁,w₁,hq,.pass (x:= .inLoop c) rfl (fun _ _=> .inl (by simp)) harr⟩
   |ret=>exact⟨_,a₁,w₁,hq,.pass (x:= .inLoop c) rfl (fun _ _=> .inl (by simp)) harr⟩
   |panic ch=>exact⟨_,a₁,w₁,hq,.pass (x:= .inLoop c) rfl (fun _ _=> .inl (by simp)) harr⟩
   |outgrown=>exact⟨_,a₁,w₁,hq,.pass (x:= .inLoop c) rfl (fun _ _=> .inl (by simp)) harr⟩
 intro b k cs;obtain⟨e,a',w',hq,harr⟩:=key _ a w hl b k cs;exact⟨e,a',w',hq,.of_steps (.one step_loop) harr⟩
theorem awp_sound(hm:P.follows .mixedOrders=true): ∀ (c:Code)(Q':Post)(β:Env)(s:Slots)(h:Heap)(a:Act)(w:World)(Q:Exit→Act→World→Prop),
  awp P ow wf n c Q' s h→St n β s h a w→(∀ e a' w',ToE n β h w Q' e a' w'→Q e a' w')→c.wp P Q a w
 | .skip,Q',β,s,h,a,w,Q,hw,st,hk=>wp_skip (hk _ _ _ ⟨s,h,β,hw,st,Ext.refl⟩)
 | .region id ops true,Q',β,s,h,a,w,Q,hw,st,hk=>by
  simp only[awp,if_true]at hw;obtain⟨s1,h1,wk,hw⟩:=hw;obtain⟨k1,k2,k3⟩:=wk β w st.sim;have hk:=fun e a' w' (ht:ToE n β h1 w Q' e a' w')=>hk e a' w' (by obtain⟨s2,h2,β2,q2,st2,ex2⟩:=ht;exact⟨s2,h2,β2,q2,st2,k2.trans ex2⟩);have st:St n β s1 h1 a w:=⟨k1,fun t=>k3 t _ (st.rep t),st.size,st.defers⟩;rcases hw with hw|hw|hw
  ·have:=dwp_sound (id:=id) hm st hw (Q:=Q) (fun a' w' ht=>hk _ _ _ ht);simpa using this
  ·have:=dwp2_sound (id:=id) hm st hw (Q:=Q) (fun a' w' ht=>hk _ _ _ ht);simpa using this
  ·have:=dwp3_sound (id:=id) hm st hw (Q:=Q) (fun a' w' ht=>hk _ _ _ ht);simpa using this
 | .region id ops false,Q',β,s,h,a,w,Q,hw,st,hk=>by
  simp only[awp,Bool.false_eq_true,if_false]at hw;obtain⟨s1,h1,wk,hw⟩:=hw;obtain⟨k1,k2,k3⟩:=wk β w st.sim;have hk:=fun e a' w' (ht:ToE n β h1 w Q' e a' w')=>hk e a' w' (by obtain⟨s2,h2,β2,q2,st2,ex2⟩:=ht;exact⟨s2,h2,β2,q2,st2,k2.trans ex2⟩);have st:St n β s1 h1 a w:=⟨k1,fun t=>k3 t _ (st.rep t),st.size,st.defers⟩;refine wp_region_list ?_;have:=lwp_sound (Q:=Q) ops.toList st hw (fun a' w' ht=>hk _ _ _ ht);simpa using this
 | .seq x y,Q',β,s,h,a,w,Q,hw,st,hk=>by
  simp only[awp]at hw;refine wp_seq (awp_sound hm x _ β s h a w _ hw st (fun e a' w' ht=>?_));obtain⟨s',h',β',hq,st',ex⟩:=ht;cases e<;>simp only[Post.seq]at hq<;>simp only[Exit.then]
  ·exact awp_sound hm y _ β' s' h' a' w' Q hq st' (fun e a'' w'' ⟨s2,h2,β2,q2,st2,ex2⟩=>hk _ _ _ ⟨s2,h2,β2,q2,st2,ex.trans ex2⟩)
  all_goals exact hk _ _ _ ⟨s',h',β',hq,st',ex⟩
 | .cond c x y,Q',β,s,h,a,w,Q,hw,st,hk=>by
  simp only[awp]at hw;split at hw
  ·rename_i b hb;have he:=pev_rep st.rep c;rw[hb]at he;simp only[RepH,Rep]at he;cases b with
   |true=>exact wp_cond_true he (awp_sound hm x _ β s h a w Q (by simpa using hw) st hk)
   |false=>exact wp_cond_false he (awp_sound hm y _ β s h a w Q (by simpa using hw) st hk)
  ·exact hw.elim
 | .block id c,Q',β,s,h,a,w,Q,hw,st,hk=>by
  simp only[awp]at hw;refine wp_block (awp_sound hm c _ β s h a w _ hw st (fun e a' w' ht=>?_));obtain⟨s',h',β',hq,st',ex⟩:=ht;cases e<;>simp only[Post.block]at hq<;>simp only[Exit.inBlock]
  case exit id'=>
   by_cases hid:id'=id
   ·rw [if_pos hid]at hq⊢;exact hk _ _ _ ⟨s',h',β',hq,st',ex⟩
   ·rw [if_neg hid]at hq⊢;exact hk _ _ _ ⟨s',h',β',hq,st',ex⟩
  all_goals exact hk _ _ _ ⟨s',h',β',hq,st',ex⟩
 | .loop c,Q',β,s,h,a,w,Q,hw,st,hk=>by
  simp only[awp]at hw;obtain⟨k,hw⟩:=hw;refine wp_loopW (k:=k) ?_;have key: ∀ (k:Nat)(β:Env)(s:Slots)(h:Heap)(a:Act)(w:World),loopN (awp P ow wf n c) Q' k s h→St n β s h a w→(∀ e a' w',ToE n β h w Q' e a' w'→Q e a' w')→LoopW P c Q k a w:=by
   intro k
   induction k with
   |zero=>intro β s h a w hl;exact hl.elim
   |succ k ih=>
    intro β s h a w hl st hk;simp only[loopN]at hl;simp only[LoopW];refine awp_sound hm c _ β s h a w _ hl st (fun e a' w' ht=>?_);obtain⟨s',h',β',hq,st',ex⟩:=ht;cases e<;>simp only[Post.seq]at hq<;>simp only[Exit.then]
    ·exact ih β' s' h' a' w' hq st' (fun e a'' w'' ⟨s2,h2,β2,q2,st2,ex2⟩=>hk _ _ _ ⟨s2,h2,β2,q2,st2,ex.trans ex2⟩)
    all_goals exact hk _ _ _ ⟨s',h',β',hq,st',ex⟩
  exact key k β s h a w hw st hk
 | .exit id,Q',β,s,h,a,w,Q,hw,st,hk=>wp_exit (hk _ _ _ ⟨s,h,β,hw,st,Ext.refl⟩)
 | .ret,Q',β,s,h,a,w,Q,hw,st,hk=>wp_ret (hk _ _ _ ⟨s,h,β,hw,st,Ext.refl⟩)
 | .rangeFunc _ _ _ _,_,_,_,_,_,_,_,hw,_,_=>hw.elim
 | .scope _,_,_,_,_,_,_,_,hw,_,_=>hw.elim
 | .label _,_,_,_,_,_,_,_,hw,_,_=>hw.elim
 | .goto _,_,_,_,_,_,_,_,hw,_,_=>hw.elim
 | .refuse _,_,_,_,_,_,_,_,hw,_,_=>hw.elim
theorem resP_sound{β:Env}{s:Slots}{h:Heap}{a:Act}{w:World}(st:St n β s h a w){r:ResultVar}{p:PV}(hr:resP P s h r=some p):
  ∃ v,(match r with| .tmp t=>pure (a.tmps.getD t undef)| .cell x t=>do loadVar t (← asAddr (a.tmps.getD x undef)):Sem Value).run P w= .ok v w∧RepH β h w p v:=by
 cases r with
 |tmp t=>
  simp only[resP,Option.some.injEq]at hr;subst hr;exact⟨_,rfl,st.rep t⟩
 |cell x t=>
  simp only[resP]at hr;cases hz:szT P t with
  |none=>simp[hz]at hr
  |some m=>
   cases hc:rd h (s x)with
   |none=>simp[hz,hc]at hr
   |some cs=>
    simp only[hz,hc,Option.bind_some]at hr;obtain⟨b,o,g1,g2⟩:=rd_sound st.sim hc (st.rep x);obtain⟨xv,g3,g4⟩:=loadVar_sound (P:=P) hz hr g2;refine⟨xv,?_,g4⟩;simp only[g1,asAddr,pure_bind];exact g3
theorem resAll_sound{β:Env}{s:Slots}{h:Heap}{a:Act}{w:World}(st:St n β s h a w): ∀ (rs:List ResultVar)(ps:List PV),resAll P s h rs=some ps→
  ∃ vs:List Value,(rs.mapM (fun| .tmp t=>pure (a.tmps.getD t undef)| .cell x t=>do loadVar t (← asAddr (a.tmps.getD x undef)):ResultVar→Sem Value)).run P w= .ok vs w∧RepL β h.next (Fz β h w) w ps vs
 |[],ps,hr=>by simp[resAll]at hr;subst hr;exact⟨[],by simp,by simp[RepL]⟩
 |r::rs,ps,hr=>by
  simp only[resAll]at hr;cases h1:resP P s h r with
  |none=>simp[h1]at hr
  |some p=>
   cases h2:resAll P s h rs with
   |none=>simp[h1,h2]at hr
   |some ps'=>
    simp[h1,h2]at hr;subst hr;obtain⟨v,g1,g2⟩:=resP_sound st h1;obtain⟨vs,g3,g4⟩:=resAll_sound st rs ps' h2;refine⟨v::vs,?_,by simp only[RepL];exact⟨g2,g4⟩⟩;simp only[List.mapM_cons,Sem.run_bind,g1,Result.andThen_ok,g3,Sem.run_pure]
theorem pcall_body(hm:P.follows .mixedOrders=true){f:FuncId}{fn:Func}{c:Code}{args:List PV}{h:Heap}{K:PV→Heap→Prop}(hf:P.funcs[f]? =some fn)(hb:fn.body=some c)(hh:hasBody P f=true)(hn:args.length≤fn.ntmps)
  (hw:awp P ow wf fn.ntmps c (retPost P fn.results.toList K) (slots0 args) h):PCall P f args h K:=by
 refine fun β w vals sm hr=> .inl ⟨hh,?_⟩;have hl:=hr.len;refine calls_of_wp hf hb ?_;have st:St fn.ntmps β (slots0 args) h {tmps:=vals.toArray++Array.replicate (fn.ntmps-vals.toArray.size) undef,defers:=[]} w:=by
  refine⟨sm,fun t=>?_,?_,rfl⟩
  ·simp only[slots0];by_cases ht:t<args.length
   ·have h1:args[t]? =some args[t]:=List.getElem?_eq_getElem ht;obtain⟨v,hv,hvr⟩:=hr.get h1;rw[List.getD_eq_getElem?_getD,h1];have:(vals.toArray++Array.replicate (fn.ntmps-vals.toArray.size) undef)[t]? =some v:=by
     rw[Array.getElem?_append_left (by simp;omega)];simpa using hv
    rw[Array.getD_eq_getD_getElem?,this];exact hvr
   ·rw [List.getD_eq_getElem?_getD,List.getElem?_eq_none (by omega)];have:(vals.toArray++Array.replicate (fn.ntmps-vals.toArray.size) undef).getD t undef=undef:=by
     rw[Array.getD_eq_getD_getElem?,Array.getElem?_append_right (by simp;omega),Array.getElem?_replicate];split<;>rfl
    rw[this];simp only[RepH,Option.getD_none,Rep]
  ·simp;omega
 refine awp_sound hm c _ β _ h _ w _ hw st (fun e a' w' ht=>?_);obtain⟨s',h',β',hq,st',ex⟩:=ht;have fin:(match resAll P s' h' fn.results.toList with|some vs=>K (resV vs) h'|none=>False)→a'.defers=[]∧ ∃ v,(results fn a'.tmps).run P w'= .ok v w'∧(∃ r h'' β'' u,Ending.returned v= .returned u∧K r h''∧Sim β'' h'' w'∧RepH β'' h'' w' r u∧Ext β h w β'' h'' w'):=by
  intro hq;split at hq
  ·rename_i ps hps;obtain⟨vs,g1,g2⟩:=resAll_sound st' _ ps hps;refine⟨st'.defers,(if hx:vs.toArray.size=1 then vs.toArray[0]else .tuple vs.toArray),?_,resV ps,h',β',_,rfl,hq,st'.sim,?_,ex⟩
   ·simp only[results,Array.mapM_eq_mapM_toList,Sem.run_bind,Sem.run_map];exact congrArg (fun r:Result (List Value)=>(r.andThen fun a w'=>Result.ok a.toArray w').andThen fun a w'=>(Pure.pure (if h:a.size=1 then a[0]else Value.tuple a):Sem Value).run P w') g1
   ·have hl2:=g2.len
    match ps,vs,hl2,g2 with
    |[p],[v],_,g2=>simp only[RepL]at g2;simpa[resV]using g2.1
    |[],[],_,g2=>simp only[resV,RepH,Rep];exact⟨[],by simp,g2⟩
    |p::q::ps,v::u::vs,_,g2=>simp only[resV,RepH,Rep];exact⟨v::u::vs,by simp,g2⟩
    |[],v::vs,hl2,_=>simp at hl2
    |p::ps,[],hl2,_=>simp at hl2
    |[p],v::u::vs,hl2,_=>simp at hl2
    |p::q::ps,[v],hl2,_=>simp at hl2
  ·exact hq.elim
 cases e<;>simp only[retPost]at hq
 ·exact fin hq
 ·exact fin hq
theorem Goes.body{f:FuncId}{vals:Array Value}{w:World}{Q:Ending→World→Prop}(hb:hasBody P f=true)(h:Goes P f vals w Q):Calls P f vals w Q:=by
 rcases h with⟨_,h⟩|⟨v,w',h,_⟩
 ·exact h
 ·unfold hasBody at hb;cases hfn:P.funcs[f]? with
  |none=>simp[hfn]at hb
  |some fn=>
   simp[hfn]at hb;have hbody:fn.body.isNone=false:=(by cases hbb:fn.body<;>simp[hbb]at hb⊢);have hne:fn.body≠none:=(by intro e;rw[e]at hb;simp at hb);simp[callFunc,hfn,hb.1,hne]at h
def heapG(g:Nat)(lo hi:Int):Heap:=⟨g+1,fun i=>if i=g then some (.glb g lo hi)else none⟩
theorem law_callsG{f:FuncId}{pargs:List PV}{w:World}{vals:List Value}{g:Nat}{i lo hi T:Int}(hg:w.cell? ⟨g,0,none⟩=some (.int .i64 i))(hlo:lo≤i)(hhi:i≤hi)(hb:hasBody P f=true)(hc:PCall P f pargs (heapG g lo hi) (fun r _=>r= .sc (.bool true)))
  (hr:RepL ⟨fun _=>⟨none,0,0,0⟩,⟨fun _=>False,T⟩⟩ 0 (fun b=>b<w.heap.size) w pargs vals):
  Calls P f vals.toArray w fun e w'=>e= .returned (.bool true)∧RowKit.Below w.heap.size w w':=by
 have hlt:g<w.heap.size:=by
  unfold World.cell? at hg;split at hg
  ·rename_i hh;exact(Array.getElem?_eq_some_iff.1 hh).1
  ·simp at hg
 have fz0: ∀ b,b<w.heap.size→Fz ⟨fun _=>⟨none,0,0,0⟩,⟨fun _=>False,T⟩⟩ (heapG g lo hi) w b:=fun b hb=>⟨hb,fun id h=>by simp,fun h=>h⟩;have obj: ∀ id o,(heapG g lo hi).obj id=some o→id=g∧o= .glb g lo hi:=by
  intro id o ho;simp only[heapG]at ho;split at ho
  ·rename_i he;simp at ho;exact⟨he,ho.symm⟩
  ·simp at ho
 have objS: ∀ id,((heapG g lo hi).obj id).isSome=true→id=g:=fun id hs=>(obj id _ (Option.eq_some_of_isSome hs)).1;have sm:Sim ⟨fun _=>⟨none,0,0,0⟩,⟨fun _=>False,T⟩⟩ (heapG g lo hi) w:=by
  refine⟨fun id h=>?_,fun id o h=>?_,fun i j h1 h2=>?_,fun b h=>h.elim,fun id h b hb=>by simp at hb,fun _ _=>rfl⟩
  ·rw [objS id h];simp[heapG]
  ·obtain ⟨rfl,rfl⟩:=obj id o h;simp only[ObjOk];exact⟨trivial,fz0 _ hlt,i,hlo,hhi,hg⟩
  ·intro b hb;simp at hb
 have hr':RepL ⟨fun _=>⟨none,0,0,0⟩,⟨fun _=>False,T⟩⟩ (heapG g lo hi).next (Fz ⟨fun _=>⟨none,0,0,0⟩,⟨fun _=>False,T⟩⟩ (heapG g lo hi) w) w pargs vals:=
  RepL.mv ⟨Nat.zero_le _,fun _ _ _=>rfl,fun b hb=>⟨fz0 b hb,rfl⟩,rfl⟩ _ _ hr
 refine(Goes.body hb (hc _ w vals sm hr')).mono ?_;rintro e w' ⟨r,h',β',v,rfl,rfl,sm',hrep,ex⟩;simp only[RepH,Rep]at hrep;subst hrep;exact⟨rfl,⟨ex.os,ex.tape,ex.output,ex.size,fun k hk=>(ex.fz k (fz0 k hk)).2⟩⟩
theorem PCall.mono{f:FuncId}{args:List PV}{h:Heap}{K K':PV→Heap→Prop}(hc:PCall P f args h K)(hk: ∀ r h',K r h'→K' r h'):PCall P f args h K':=
 fun β w vals sm hr=>(hc β w vals sm hr).mono fun _ _ ⟨r,h',β',v,h1,h2,h3⟩=>⟨r,h',β',v,h1,hk _ _ h2,h3⟩
end
end Go.AM
namespace Go.AM
def vEq:Value→Value→Bool
 | .int k a,.int k' b=>decide (k=k')&&decide (a=b)
 | .bool a,.bool b=>a==b
 | .string a,.string b=>decide (a.data.toList=b.data.toList)
 | .nilIface,.nilIface=>true
 | .pointer none,.pointer none=>true
 | .map none,.map none=>true
 | .slice none n m,.slice none n' m'=>decide (n=n')&&decide (m=m')
 | .func (.func f) a b,.func (.func f') a' b'=>decide (f=f')&&decide (a.size=0)&&decide (b.size=0)&&decide (a'.size=0)&&decide (b'.size=0)
 | .iface t v,.iface u x=>decide (t=u)&&vEq v x
 |_,_=>false
theorem vEq_eq(a b:Value)(h:vEq a b=true):a=b:=by
 fun_induction vEq a b
 case case3 a b=>
  obtain⟨⟨a⟩⟩:=a;obtain⟨⟨b⟩⟩:=b;simp at h;rw[h]
 case case8=>
  simp at h;obtain⟨⟨⟨⟨rfl,rfl⟩,rfl⟩,rfl⟩,rfl⟩:=h;rfl
 all_goals simp_all
mutual
def pvEq:PV→PV→Bool
 | .sc v,.sc u=>vEq v u
 | .ptr a b c,.ptr a' b' c'=>decide (a=a')&&decide (b=b')&&decide (c=c')
 | .own a b c,.own a' b' c'=>decide (a=a')&&decide (b=b')&&decide (c=c')
 | .mp a,.mp b=>decide (a=b)
 | .emp,.emp=>true
 | .cptr l,.cptr l'=>pvEqL l l'
 | .agg l,.agg l'=>pvEqL l l'
 | .tup l,.tup l'=>pvEqL l l'
 | .fn f a b,.fn f' a' b'=>decide (f=f')&&pvEqL a a'&&pvEqL b b'
 | .ab k a b c d,.ab k' a' b' c' d'=>decide (k=k')&&decide (a=a')&&decide (b=b')&&decide (c=c')&&decide (d=d')
 | .lin a b c d,.lin a' b' c' d'=>decide (a=a')&&decide (b=b')&&decide (c=c')&&decide (d=d')
 | .imm z r,.imm z' r'=>decide (z=z')&&pvEqR r r'
 |_,_=>false
def pvEqL:List PV→List PV→Bool
 |[],[]=>true
 |a::l,b::l'=>pvEq a b&&pvEqL l l'
 |_,_=>false
def pvEqR:List (List PV)→List (List PV)→Bool
 |[],[]=>true
 |a::l,b::l'=>pvEqL a b&&pvEqR l l'
 |_,_=>false
end
mutual
theorem pvEq_eq: ∀ (a b:PV),pvEq a b=true→a=b
 | .sc v,b,h=>by cases b<;>simp[pvEq]at h;rw[vEq_eq _ _ h]
 | .ptr a b c,x,h=>by cases x<;>simp[pvEq]at h;obtain⟨⟨rfl,rfl⟩,rfl⟩:=h;rfl
 | .own a b c,x,h=>by cases x<;>simp[pvEq]at h;obtain⟨⟨rfl,rfl⟩,rfl⟩:=h;rfl
 | .mp a,x,h=>by cases x<;>simp[pvEq]at h;rw[h]
 | .emp,x,h=>by cases x<;>simp[pvEq]at h;rfl
 | .cptr l,x,h=>by cases x<;>simp[pvEq]at h;rw[pvEqL_eq _ _ h]
 | .agg l,x,h=>by cases x<;>simp[pvEq]at h;rw[pvEqL_eq _ _ h]
 | .tup l,x,h=>by cases x<;>simp[pvEq]at h;rw[pvEqL_eq _ _ h]
 | .imm z r,x,h=>by cases x<;>simp[pvEq]at h;rw[h.1,pvEqR_eq _ _ h.2]
 | .fn f a b,x,h=>by cases x<;>simp[pvEq]at h;rw[h.1.1,pvEqL_eq _ _ h.1.2,pvEqL_eq _ _ h.2]
 | .ab k a b c d,x,h=>by cases x<;>simp[pvEq]at h;obtain⟨⟨⟨⟨rfl,rfl⟩,rfl⟩,rfl⟩,rfl⟩:=h;rfl
 | .lin a b c d,x,h=>by cases x<;>simp[pvEq]at h;obtain⟨⟨⟨rfl,rfl⟩,rfl⟩,rfl⟩:=h;rfl
theorem pvEqL_eq: ∀ (a b:List PV),pvEqL a b=true→a=b
 |[],b,h=>by cases b<;>simp[pvEqL]at h;rfl
 |x::l,b,h=>by cases b<;>simp[pvEqL]at h;rw[pvEq_eq _ _ h.1,pvEqL_eq _ _ h.2]
theorem pvEqR_eq: ∀ (a b:List (List PV)),pvEqR a b=true→a=b
 |[],b,h=>by cases b<;>simp[pvEqR]at h;rfl
 |x::l,b,h=>by cases b<;>simp[pvEqR]at h;rw[pvEqL_eq _ _ h.1,pvEqR_eq _ _ h.2]
end
section
variable (P:Program)(wf:FuncId→Bool)(own:FuncId→Nat→Bool)(ext:FuncId→List PV→Option PV)
end
section
variable {P:Program}{wf:FuncId→Bool}{own:FuncId→Nat→Bool}
theorem eff_same{ow:Nat→Bool}{o:Oper}{ρ:Operand→PV}{h h':Heap}{v:PV}(hw:isW ow wf o=false)(hc:callee ρ o.op=none)(he:eff P (o.dst.any ow) o.op ρ h=some (v,h')):h'=h:=by
 obtain⟨dst,op,t,pos,after,guard⟩:=o;simp only at hc he hw;unfold eff at he;split at he<;>simp only[isW]at hw<;>(try(simp at hw;done));all_goals(repeat'(split at he))
 all_goals first
  |(simp[Option.bind_eq_some_iff,Option.map_eq_some_iff]at he;done)
  |(simp[Option.bind_eq_some_iff,Option.map_eq_some_iff]at he;grind)
  |skip
theorem Does.owp{ow:Nat→Bool}{o:Oper}{s:Slots}{h h':Heap}{v:PV}{K:Slots→Heap→Prop}(hd:Does P ow o (pev s) h v h')(hK:K (updO s o.dst v) h'):owp P ow o K s h:=by
 unfold Does at hd;unfold AM.owp;split at hd
 ·rename_i f args hc;exact hd.mono (fun r h'' hr=>by rw[hr.1,hr.2];exact hK)
 ·rename_i hc;rw[hd];exact hK
theorem pcall_indexByte{f:FuncId}{fn:Func}(hf:P.funcs[f]? =some fn)(hname:(fn.name== "runtime.NumGoroutine")=false)(hb:fn.body.isNone=true)(hn:Extern.findNext fn=none)(he:Extern.find fn=some Extern.BytealgIndexByte.indexByte)(s:ByteArray)(c:Int)(h:Heap):
  PCall P f [.sc (.string s),.sc (.int .u8 c)] h (fun r h'=>r= .sc (.int .i64 (firstIdx s c.toNat.toUInt8))∧h'=h):=by
 intro β w vals sm hr
 match vals,hr.len,hr with
 |[x,y],_,hr=>
  simp only[RepL,Rep]at hr;obtain⟨rfl,rfl,_⟩:=hr;exact .inr ⟨_,w,by rw[run_callFunc_extern hf hname hb hn he];simp only[run_indexByte_string];rfl,_,h,β,_,rfl,⟨rfl,rfl⟩,sm,by simp only[RepH,Rep],Ext.refl⟩
end
end Go.AM
namespace Go.AM
section
variable {P:Program}{ow:Nat→Bool}{wf:FuncId→Bool}{n:Nat}
theorem new_obj(h:Heap)(o:AObj)(i:Nat):(h.new o).obj i=if i=h.next then some o else h.obj i:=rfl
theorem kill_obj(h:Heap)(id i:Nat):(h.kill id).obj i=if i=id then none else h.obj i:=rfl
theorem set_obj(h:Heap)(id:Nat)(o:AObj)(i:Nat):(h.set id o).obj i=if i=id then some o else h.obj i:=rfl
theorem new_next(h:Heap)(o:AObj):(h.new o).next=h.next+1:=rfl
theorem kill_next(h:Heap)(id:Nat):(h.kill id).next=h.next:=rfl
theorem set_next(h:Heap)(id:Nat)(o:AObj):(h.set id o).next=h.next:=rfl
theorem upd_app(s:Slots)(d:Nat)(v:PV)(t:Nat):upd s d v t=if t=d then v else s t:=rfl
theorem updO_some(s:Slots)(d:Nat)(v:PV):updO s (some d) v=upd s d v:=rfl
theorem updO_none(s:Slots)(v:PV):updO s none v=s:=rfl
theorem slots0_app(l:List PV)(t:Nat):slots0 l t=l.getD t (.sc undef):=rfl
theorem constPV_int(k:IntKind)(i:Int):constPV (.int k i)= .sc (.int k i):=rfl
theorem constPV_bool(b:Bool):constPV (.bool b)= .sc (.bool b):=rfl
theorem constPV_str(b:ByteArray):constPV (.string b)= .sc (.string b):=rfl
theorem constPV_nilI:constPV .nilIface= .sc .nilIface:=rfl
theorem constPV_ptr(a:Option Addr):constPV (.pointer a)= .sc (.pointer a):=rfl
theorem constPV_slice(a:Option Addr)(l c:Nat):constPV (.slice a l c)= .sc (.slice a l c):=rfl
theorem constPV_map(a:Option Nat):constPV (.map a)= .sc (.map a):=rfl
theorem constPV_agg(l:List Value):constPV (.agg l.toArray)=if l.all Value.oneCell'=true then .agg (l.map .sc)else .sc (.agg l.toArray):=rfl
theorem owp_mono{o:Oper}{K K':Slots→Heap→Prop}(hk: ∀ s h,K s h→K' s h){s:Slots}{h:Heap}(ho:owp P ow o K s h):owp P ow o K' s h:=by
 unfold owp at ho⊢;split at ho
 ·exact ho.mono fun _ _=>hk _ _
 ·split at ho
  ·exact hk _ _ ho
  ·exact ho
theorem lwp_mono{ops:List Oper}{K K':Slots→Heap→Prop}(hk: ∀ s h,K s h→K' s h): ∀ (l:List Oper){s:Slots}{h:Heap},lwp P ow n ops l K s h→lwp P ow n ops l K' s h
 |[],s,h,hl=>hk s h hl
 |o::rest,s,h,hl=>by
  simp only[lwp]at hl⊢;refine⟨hl.1,?_⟩;have h2:=hl.2;split at h2
  ·exact h2.elim
  ·split at h2
   ·rename_i hb;simp only[hb,if_true];exact owp_mono (fun s h=>lwp_mono hk rest) h2
   ·rename_i hb;simp only[hb,if_false,Bool.false_eq_true];exact lwp_mono hk rest h2
theorem drun_mono{ops:List Oper}{K K':Slots→Heap→Prop}(hk: ∀ s h,K s h→K' s h): ∀ (l:List Oper)(k:Nat)(past:List (Nat × (Heap→Prop)))(hist:List (Nat × Heap)){s:Slots}{h:Heap},drun P ow wf n ops k l past hist K s h→drun P ow wf n ops k l past hist K' s h
 |[],_,_,_,s,h,hl=>hk s h hl
 |o::rest,k,past,hist,s,h,hl=>by
  simp only[drun]at hl⊢;refine⟨hl.1,?_⟩;have h2:=hl.2;split at h2
  ·exact h2.elim
  ·split at h2
   ·rename_i hb;simp only[hb,if_true];split at h2
    ·rename_i hw;obtain⟨v,h',g1,g2,g3⟩:=h2;rw[if_pos hw];exact⟨v,h',g1,g2,drun_mono hk rest _ _ _ g3⟩
    ·rename_i hw;obtain⟨v,g1,g2,g3⟩:=h2;rw[if_neg hw];exact⟨v,g1,g2,drun_mono hk rest _ _ _ g3⟩
   ·rename_i hb;simp only[hb,if_false,Bool.false_eq_true];exact drun_mono hk rest _ _ _ h2
theorem drun2_mono{ops:List Oper}{base:Nat}{K K':Slots→Heap→Prop}(hk: ∀ s h,K s h→K' s h): ∀ (l:List Oper)(k:Nat)(past:List (Nat × (Heap→Prop)))(hist:List (Nat × Heap)){s:Slots}{h:Heap},drun2 P ow wf n ops base k l past hist K s h→drun2 P ow wf n ops base k l past hist K' s h
 |[],_,_,_,s,h,hl=>hk s h hl
 |o::rest,k,past,hist,s,h,hl=>by
  simp only[drun2]at hl⊢;refine⟨hl.1,?_⟩;have h2:=hl.2;split at h2
  ·exact h2.elim
  ·split at h2
   ·rename_i hb;simp only[hb,if_true];split at h2
    ·rename_i hw;obtain⟨v,h',g1,g0,g2,g3⟩:=h2;rw[if_pos hw];exact⟨v,h',g1,g0,g2,drun2_mono hk rest _ _ _ g3⟩
    ·rename_i hw;obtain⟨v,g1,g2,g3⟩:=h2;rw[if_neg hw];exact⟨v,g1,g2,drun2_mono hk rest _ _ _ g3⟩
   ·rename_i hb;simp only[hb,if_false,Bool.false_eq_true];exact drun2_mono hk rest _ _ _ h2
theorem loopN_mono{c:Post→Slots→Heap→Prop}(hc: ∀ {Q Q':Post},(∀ e s h,Q e s h→Q' e s h)→ ∀ {s h},c Q s h→c Q' s h){Q Q':Post}(hq: ∀ e s h,Q e s h→Q' e s h): ∀ {k k':Nat},k≤k'→ ∀ {s:Slots}{h:Heap},loopN c Q k s h→loopN c Q' k' s h
 |0,_,_,_,_,hl=>hl.elim
 |k+1,0,hle,_,_,_=>by omega
 |k+1,k'+1,hle,s,h,hl=>by
  simp only[loopN]at hl⊢;refine hc (fun e s h hh=>?_) hl;cases e<;>simp only[Post.seq]at hh⊢
  ·exact loopN_mono hc hq (by omega) hh
  all_goals exact hq _ _ _ hh
theorem awp_mono: ∀ (c:Code){Q Q':Post},(∀ e s h,Q e s h→Q' e s h)→ ∀ {s:Slots}{h:Heap},awp P ow wf n c Q s h→awp P ow wf n c Q' s h
 | .skip,_,_,hq,_,_,hw=>hq _ _ _ hw
 | .region id ops d,Q,Q',hq,s,h,hw=>by
  simp only[awp]at hw⊢;obtain⟨s,h,wk,hw⟩:=hw;refine⟨s,h,wk,?_⟩;cases d with
  |true=>
   simp only[if_true]at hw⊢;exact hw.imp (fun hw=>⟨hw.1,drun_mono (fun s h=>hq _ s h) _ _ _ _ hw.2⟩) (fun hw=>hw.imp (fun hw=>⟨hw.1,drun2_mono (fun s h=>hq _ s h) _ _ _ _ hw.2⟩) (fun⟨d,sk,hk,vk,lt,br,e1,e2,k,f⟩=>⟨d,sk,hk,vk,lt,br,e1,e2,hq _ _ _ k,f⟩))
  |false=>simp only[Bool.false_eq_true,if_false]at hw⊢;exact lwp_mono (fun s h=>hq _ s h) _ hw
 | .seq a b,Q,Q',hq,s,h,hw=>by
  simp only[awp]at hw⊢;refine awp_mono a (fun e s h hh=>?_) hw;cases e<;>simp only[Post.seq]at hh⊢
  ·exact awp_mono b hq hh
  all_goals exact hq _ _ _ hh
 | .cond c x y,Q,Q',hq,s,h,hw=>by
  simp only[awp]at hw⊢;split at hw
  ·split at hw
   ·rename_i hb;rw[if_pos hb];exact awp_mono x hq hw
   ·rename_i hb;rw[if_neg hb];exact awp_mono y hq hw
  ·exact hw
 | .block id c,Q,Q',hq,s,h,hw=>by
  simp only[awp]at hw⊢;refine awp_mono c (fun e s h hh=>?_) hw;cases e<;>simp only[Post.block]at hh⊢
  case exit id'=>split at hh<;>rename_i he<;>simp only[he,if_true,if_false]<;>exact hq _ _ _ hh
  all_goals exact hq _ _ _ hh
 | .loop c,Q,Q',hq,s,h,hw=>by
  simp only[awp]at hw⊢;obtain⟨k,hw⟩:=hw;exact⟨k,loopN_mono (c:=awp P ow wf n c) (fun hqq=>awp_mono c hqq) hq (Nat.le_refl _) hw⟩
 | .exit id,_,_,hq,_,_,hw=>hq _ _ _ hw
 | .ret,_,_,hq,_,_,hw=>hq _ _ _ hw
 | .rangeFunc _ _ _ _,_,_,_,_,_,hw=>hw
 | .scope _,_,_,_,_,_,hw=>hw
 | .label _,_,_,_,_,_,hw=>hw
 | .goto _,_,_,_,_,_,hw=>hw
 | .refuse _,_,_,_,_,_,hw=>hw
variable {Q:Post}{s:Slots}{h:Heap}
theorem a_skip(hq:Q .normal s h):awp P ow wf n .skip Q s h:=hq
theorem a_exit{id:Nat}(hq:Q (.exit id) s h):awp P ow wf n (.exit id) Q s h:=hq
theorem a_ret(hq:Q .ret s h):awp P ow wf n .ret Q s h:=hq
theorem a_seq{a b:Code}(hk: ∀ K:Slots→Heap→Prop,(∀ s h,awp P ow wf n b Q s h→K s h)→awp P ow wf n a (Post.seq K Q) s h):awp P ow wf n (.seq a b) Q s h:=by
 simp only[awp];exact hk _ fun _ _ x=>x
theorem a_block{id:Nat}{c:Code}(hk:awp P ow wf n c (Post.block id Q) s h):awp P ow wf n (.block id c) Q s h:=hk
theorem a_cond{c:Operand}{x y:Code}(b:Bool)(hc:pev s c= .sc (.bool b))(h1:b=true→awp P ow wf n x Q s h)(h2:b=false→awp P ow wf n y Q s h):awp P ow wf n (.cond c x y) Q s h:=by
 simp only[awp,hc];cases b with
 |true=>simpa using h1 rfl
 |false=>simpa using h2 rfl
def lwn(P:Program)(ow:Nat→Bool)(n:Nat)(ops:List Oper):List Oper→(Slots→Heap→Prop)→Slots→Heap→Prop
 |[],K,s,h=>K s h
 |o::rest,K,s,h=>(o.dst.all (fun d=>decide (d<n))=true)∧match wantedB ops s o with
  |none=>False
  | some b => if b = true then
    (match callee (pev s) o.op with
    |none=>(match eff P (o.dst.any ow) o.op (pev s) h with
     |some (v,h1)=>lwn P ow n ops rest K (updO s o.dst v) h1
     |none=>False)
    |some _=>owp P ow o (lwp P ow n ops rest K) s h)
   else lwn P ow n ops rest K (updO s o.dst (.sc undef)) h
theorem lwn_lwp{ops:List Oper}{K:Slots→Heap→Prop}:(rest:List Oper)→(s:Slots)→(h:Heap)→lwn P ow n ops rest K s h→lwp P ow n ops rest K s h
 |[],_,_,hh=>by simpa only[lwn,lwp]using hh
 |o::rest,s,h,hh=>by
  simp only[lwn]at hh;simp only[lwp];refine⟨hh.1,?_⟩;have h2:=hh.2;clear hh;cases hw:wantedB ops s o with
  |none=>rw[hw]at h2;exact h2
  |some b=>
   rw[hw]at h2;simp only at h2⊢;split at h2
   ·rename_i hb;rw[if_pos hb];cases hc:callee (pev s) o.op with
    |none=>
     rw[hc]at h2;simp only at h2;unfold owp;rw[hc];simp only;cases he:eff P (o.dst.any ow) o.op (pev s) h with
     |none=>rw[he]at h2;exact h2.elim
     |some r=>
      rw[he]at h2;exact lwn_lwp rest _ _ h2
    |some f=>
     rw[hc]at h2;exact h2
   ·rename_i hb;rw[if_neg hb];exact lwn_lwp rest _ _ h2
theorem a_region{id:Nat}{ops:List Oper}(hk: ∀ K:Slots→Heap→Prop,(∀ s h,Q .normal s h→K s h)→lwn P ow n ops ops K s h):awp P ow wf n (.region id ops.toArray false) Q s h:=by
 simp only[awp,Bool.false_eq_true,if_false];exact⟨_,_,.refl,lwn_lwp _ _ _ (hk _ fun _ _ x=>x)⟩
theorem a_regionS{id:Nat}{ops:List Oper}{K:Slots→Heap→Prop}(hk:lwn P ow n ops ops K s h):awp P ow wf n (.region id ops.toArray false) (Post.seq K Q) s h:=by
 simp only[awp,Bool.false_eq_true,if_false];exact⟨_,_,.refl,lwn_lwp _ _ _ hk⟩
abbrev Past:=List (Nat × Oper × Slots × PV)
def pastC(P:Program)(ow:Nat→Bool)(l:Past):List (Nat × (Heap→Prop)):=l.map fun x=>(x.1,fun h'=>Does P ow x.2.1 (pev x.2.2.1) h' x.2.2.2 h')
def drn(P:Program)(ow:Nat→Bool)(wf:FuncId→Bool)(n:Nat)(ops:List Oper):Nat→List Oper→Past→List (Nat × Heap)→(Slots→Heap→Prop)→Slots→Heap→Prop
 |_,[],_,_,K,s,h=>K s h
 |k,o::rest,past,hist,K,s,h=>(o.dst.all (fun d=>decide (d<n))=true)∧match wantedB ops s o with
  |none=>False
  | some b => if b = true then
    (match callee (pev s) o.op with
    |none=>(match eff P (o.dst.any ow) o.op (pev s) h with
     |some (v,h1)=>if isW ow wf o=true then(∀ x∈past,pre ops x.1 k=true∨Does P ow x.2.1 (pev x.2.2.1) h1 x.2.2.2 h1)∧drn P ow wf n ops (k+1) rest past ((k,h)::hist) K (updO s o.dst v) h1
      else h1=h∧(∀ x∈hist,pre ops x.1 k=true∨Does P ow o (pev s) x.2 v x.2)∧drn P ow wf n ops (k+1) rest ((k,o,s,v)::past) hist K (updO s o.dst v) h
     |none=>False)
    |some _=>(if isW ow wf o=true then ∃ v h',Does P ow o (pev s) h v h'∧(∀ x∈pastC P ow past,pre ops x.1 k=true∨x.2 h')∧drun P ow wf n ops (k+1) rest (pastC P ow past) ((k,h)::hist) K (updO s o.dst v) h'
     else ∃ v,Does P ow o (pev s) h v h∧(∀ x∈hist,pre ops x.1 k=true∨Does P ow o (pev s) x.2 v x.2)∧drun P ow wf n ops (k+1) rest (pastC P ow ((k,o,s,v)::past)) hist K (updO s o.dst v) h))
   else drn P ow wf n ops (k+1) rest past hist K (updO s o.dst (.sc undef)) h
theorem ite_in{c:Prop} [Decidable c] {A B:Prop}(h1:c→A)(h2:¬ c→B):if c then A else B:=by
 by_cases h:c
 ·rw [if_pos h];exact h1 h
 ·rw [if_neg h];exact h2 h
theorem a_loop{c:Code}(I:Nat→Slots→Heap→Prop)(m:Nat)(h0:I m s h)(step: ∀ m s h,I m s h→awp P ow wf n c (Post.seq (fun s' h'=> ∃ m',m'<m∧I m' s' h') Q) s h):awp P ow wf n (.loop c) Q s h:=by
 have key: ∀ m s h,I m s h→loopN (awp P ow wf n c) Q (m+1) s h:=by
  intro m
  induction m using Nat.strongRecOn with
  |_ m ih=>
   intro s h hi;simp only[loopN];refine awp_mono c (fun e s h hh=>?_) (step m s h hi);cases e<;>simp only[Post.seq]at hh⊢
   ·obtain ⟨m',h1,h2⟩:=hh;exact loopN_mono (c:=awp P ow wf n c) (k:=m'+1) (k':=m) (fun hqq=>awp_mono c hqq) (fun _ _ _ x=>x) (by omega) (ih m' h1 _ _ h2)
   all_goals exact hh
 exact⟨m+1,key m s h h0⟩
theorem owp_use{f:FuncId}{dst:Option Tmp}{args:List Operand}{ts:Array TypeId}{ty:TypeId}{pos:String}{af:Array Edge}{gd:Option (Nat × Bool)}{as:List PV}{Kc:PV→Heap→Prop}{K:Slots→Heap→Prop}
  (hc:PCall P f as h Kc)(ha:args.map (pev s)=as)(hk: ∀ r h',Kc r h'→K (updO s dst r) h'):
  owp P ow {dst:=dst,op:= .call {callee:= .value (.func f),args:=args.toArray,argTypes:=ts},type:=ty,pos:=pos,after:=af,guard:=gd} K s h:=by
 unfold owp;simp only[callee,pev,and_self,if_true];rw[ha];exact hc.mono hk
theorem owp_useL{f:FuncId}{dst:Option Tmp}{args:List Operand}{ts:Array TypeId}{ty:TypeId}{pos:String}{af:Array Edge}{gd:Option (Nat × Bool)}{as:List PV}{Kc:PV→Heap→Prop}{K:Slots→Heap→Prop}{ops rest:List Oper}
  (hc:PCall P f as h Kc)(ha:args.map (pev s)=as)(hk: ∀ r h',Kc r h'→lwn P ow n ops rest K (updO s dst r) h'):
  owp P ow {dst:=dst,op:= .call {callee:= .value (.func f),args:=args.toArray,argTypes:=ts},type:=ty,pos:=pos,after:=af,guard:=gd} (lwp P ow n ops rest K) s h:=
 owp_use hc ha fun r h' hr=>lwn_lwp _ _ _ (hk r h' hr)
theorem owp_useQ{f:FuncId}{dst:Option Tmp}{args:List Operand}{ts:Array TypeId}{ty:TypeId}{pos:String}{af:Array Edge}{gd:Option (Nat × Bool)}{as:List PV}{v:PV}{K:Slots→Heap→Prop}{ops rest:List Oper}
  (hc:PCall P f as h fun r h'=>r=v∧h'=h)(ha:args.map (pev s)=as)(hk:lwn P ow n ops rest K (updO s dst v) h):
  owp P ow {dst:=dst,op:= .call {callee:= .value (.func f),args:=args.toArray,argTypes:=ts},type:=ty,pos:=pos,after:=af,guard:=gd} (lwp P ow n ops rest K) s h:=
 owp_useL hc ha fun r h' hr=>by rw[hr.1,hr.2];exact hk
theorem owp_move{dst:Option Tmp}{ty:TypeId}{pos:String}{af:Array Edge}{gd:Option (Nat × Bool)}{K:Slots→Heap→Prop}(x:Operand):owp P ow {dst:=dst,op:= .move x,type:=ty,pos:=pos,after:=af,guard:=gd} K s h=match eff P (dst.any ow) (.move x) (pev s) h with|some (r,h')=>K (updO s dst r) h'|none=>False:=rfl
theorem Does_move{dst:Option Tmp}{ty:TypeId}{pos:String}{af:Array Edge}{gd:Option (Nat × Bool)}{v:PV}{h':Heap}(x:Operand):Does P ow {dst:=dst,op:= .move x,type:=ty,pos:=pos,after:=af,guard:=gd} (pev s) h v h'=(eff P (dst.any ow) (.move x) (pev s) h=some (v,h')):=rfl
theorem owp_assign{dst:Option Tmp}{ty:TypeId}{pos:String}{af:Array Edge}{gd:Option (Nat × Bool)}{K:Slots→Heap→Prop}(x:Operand):owp P ow {dst:=dst,op:= .assign x,type:=ty,pos:=pos,after:=af,guard:=gd} K s h=match eff P (dst.any ow) (.assign x) (pev s) h with|some (r,h')=>K (updO s dst r) h'|none=>False:=rfl
theorem Does_assign{dst:Option Tmp}{ty:TypeId}{pos:String}{af:Array Edge}{gd:Option (Nat × Bool)}{v:PV}{h':Heap}(x:Operand):Does P ow {dst:=dst,op:= .assign x,type:=ty,pos:=pos,after:=af,guard:=gd} (pev s) h v h'=(eff P (dst.any ow) (.assign x) (pev s) h=some (v,h')):=rfl
theorem owp_pick{dst:Option Tmp}{ty:TypeId}{pos:String}{af:Array Edge}{gd:Option (Nat × Bool)}{K:Slots→Heap→Prop}(c:Operand)(a:Operand)(b:Operand):owp P ow {dst:=dst,op:= .pick c a b,type:=ty,pos:=pos,after:=af,guard:=gd} K s h=match eff P (dst.any ow) (.pick c a b) (pev s) h with|some (r,h')=>K (updO s dst r) h'|none=>False:=rfl
theorem Does_pick{dst:Option Tmp}{ty:TypeId}{pos:String}{af:Array Edge}{gd:Option (Nat × Bool)}{v:PV}{h':Heap}(c:Operand)(a:Operand)(b:Operand):Does P ow {dst:=dst,op:= .pick c a b,type:=ty,pos:=pos,after:=af,guard:=gd} (pev s) h v h'=(eff P (dst.any ow) (.pick c a b) (pev s) h=some (v,h')):=rfl
theorem owp_alloc{dst:Option Tmp}{ty:TypeId}{pos:String}{af:Array Edge}{gd:Option (Nat × Bool)}{K:Slots→Heap→Prop}(t:TypeId):owp P ow {dst:=dst,op:= .alloc t,type:=ty,pos:=pos,after:=af,guard:=gd} K s h=match eff P (dst.any ow) (.alloc t) (pev s) h with|some (r,h')=>K (updO s dst r) h'|none=>False:=rfl
theorem Does_alloc{dst:Option Tmp}{ty:TypeId}{pos:String}{af:Array Edge}{gd:Option (Nat × Bool)}{v:PV}{h':Heap}(t:TypeId):Does P ow {dst:=dst,op:= .alloc t,type:=ty,pos:=pos,after:=af,guard:=gd} (pev s) h v h'=(eff P (dst.any ow) (.alloc t) (pev s) h=some (v,h')):=rfl
theorem owp_box{dst:Option Tmp}{ty:TypeId}{pos:String}{af:Array Edge}{gd:Option (Nat × Bool)}{K:Slots→Heap→Prop}(t:TypeId)(x:Operand):owp P ow {dst:=dst,op:= .box t x,type:=ty,pos:=pos,after:=af,guard:=gd} K s h=match eff P (dst.any ow) (.box t x) (pev s) h with|some (r,h')=>K (updO s dst r) h'|none=>False:=rfl
theorem Does_box{dst:Option Tmp}{ty:TypeId}{pos:String}{af:Array Edge}{gd:Option (Nat × Bool)}{v:PV}{h':Heap}(t:TypeId)(x:Operand):Does P ow {dst:=dst,op:= .box t x,type:=ty,pos:=pos,after:=af,guard:=gd} (pev s) h v h'=(eff P (dst.any ow) (.box t x) (pev s) h=some (v,h')):=rfl
theorem owp_build{dst:Option Tmp}{ty:TypeId}{pos:String}{af:Array Edge}{gd:Option (Nat × Bool)}{K:Slots→Heap→Prop}(t:TypeId)(ps:Array (Nat × Operand)):owp P ow {dst:=dst,op:= .build t ps,type:=ty,pos:=pos,after:=af,guard:=gd} K s h=match eff P (dst.any ow) (.build t ps) (pev s) h with|some (r,h')=>K (updO s dst r) h'|none=>False:=rfl
theorem Does_build{dst:Option Tmp}{ty:TypeId}{pos:String}{af:Array Edge}{gd:Option (Nat × Bool)}{v:PV}{h':Heap}(t:TypeId)(ps:Array (Nat × Operand)):Does P ow {dst:=dst,op:= .build t ps,type:=ty,pos:=pos,after:=af,guard:=gd} (pev s) h v h'=(eff P (dst.any ow) (.build t ps) (pev s) h=some (v,h')):=rfl
theorem owp_buildSlice{dst:Option Tmp}{ty:TypeId}{pos:String}{af:Array Edge}{gd:Option (Nat × Bool)}{K:Slots→Heap→Prop}(t:TypeId)(l:Nat)(ps:Array (Nat × Operand)):owp P ow {dst:=dst,op:= .buildSlice t l ps,type:=ty,pos:=pos,after:=af,guard:=gd} K s h=match eff P (dst.any ow) (.buildSlice t l ps) (pev s) h with|some (r,h')=>K (updO s dst r) h'|none=>False:=rfl
theorem Does_buildSlice{dst:Option Tmp}{ty:TypeId}{pos:String}{af:Array Edge}{gd:Option (Nat × Bool)}{v:PV}{h':Heap}(t:TypeId)(l:Nat)(ps:Array (Nat × Operand)):Does P ow {dst:=dst,op:= .buildSlice t l ps,type:=ty,pos:=pos,after:=af,guard:=gd} (pev s) h v h'=(eff P (dst.any ow) (.buildSlice t l ps) (pev s) h=some (v,h')):=rfl
theorem owp_load{dst:Option Tmp}{ty:TypeId}{pos:String}{af:Array Edge}{gd:Option (Nat × Bool)}{K:Slots→Heap→Prop}(t:TypeId)(x:Operand):owp P ow {dst:=dst,op:= .load t x,type:=ty,pos:=pos,after:=af,guard:=gd} K s h=match eff P (dst.any ow) (.load t x) (pev s) h with|some (r,h')=>K (updO s dst r) h'|none=>False:=rfl
theorem Does_load{dst:Option Tmp}{ty:TypeId}{pos:String}{af:Array Edge}{gd:Option (Nat × Bool)}{v:PV}{h':Heap}(t:TypeId)(x:Operand):Does P ow {dst:=dst,op:= .load t x,type:=ty,pos:=pos,after:=af,guard:=gd} (pev s) h v h'=(eff P (dst.any ow) (.load t x) (pev s) h=some (v,h')):=rfl
theorem owp_store{dst:Option Tmp}{ty:TypeId}{pos:String}{af:Array Edge}{gd:Option (Nat × Bool)}{K:Slots→Heap→Prop}(t:TypeId)(x:Operand)(y:Operand):owp P ow {dst:=dst,op:= .store t x y,type:=ty,pos:=pos,after:=af,guard:=gd} K s h=match eff P (dst.any ow) (.store t x y) (pev s) h with|some (r,h')=>K (updO s dst r) h'|none=>False:=rfl
theorem Does_store{dst:Option Tmp}{ty:TypeId}{pos:String}{af:Array Edge}{gd:Option (Nat × Bool)}{v:PV}{h':Heap}(t:TypeId)(x:Operand)(y:Operand):Does P ow {dst:=dst,op:= .store t x y,type:=ty,pos:=pos,after:=af,guard:=gd} (pev s) h v h'=(eff P (dst.any ow) (.store t x y) (pev s) h=some (v,h')):=rfl
theorem owp_nilCheck{dst:Option Tmp}{ty:TypeId}{pos:String}{af:Array Edge}{gd:Option (Nat × Bool)}{K:Slots→Heap→Prop}(x:Operand):owp P ow {dst:=dst,op:= .nilCheck x,type:=ty,pos:=pos,after:=af,guard:=gd} K s h=match eff P (dst.any ow) (.nilCheck x) (pev s) h with|some (r,h')=>K (updO s dst r) h'|none=>False:=rfl
theorem Does_nilCheck{dst:Option Tmp}{ty:TypeId}{pos:String}{af:Array Edge}{gd:Option (Nat × Bool)}{v:PV}{h':Heap}(x:Operand):Does P ow {dst:=dst,op:= .nilCheck x,type:=ty,pos:=pos,after:=af,guard:=gd} (pev s) h v h'=(eff P (dst.any ow) (.nilCheck x) (pev s) h=some (v,h')):=rfl
theorem owp_binOp{dst:Option Tmp}{ty:TypeId}{pos:String}{af:Array Edge}{gd:Option (Nat × Bool)}{K:Slots→Heap→Prop}(op:BinOp)(t:TypeId)(x:Operand)(y:Operand)(u:TypeId):owp P ow {dst:=dst,op:= .binOp op t x y u,type:=ty,pos:=pos,after:=af,guard:=gd} K s h=match eff P (dst.any ow) (.binOp op t x y u) (pev s) h with|some (r,h')=>K (updO s dst r) h'|none=>False:=rfl
theorem Does_binOp{dst:Option Tmp}{ty:TypeId}{pos:String}{af:Array Edge}{gd:Option (Nat × Bool)}{v:PV}{h':Heap}(op:BinOp)(t:TypeId)(x:Operand)(y:Operand)(u:TypeId):Does P ow {dst:=dst,op:= .binOp op t x y u,type:=ty,pos:=pos,after:=af,guard:=gd} (pev s) h v h'=(eff P (dst.any ow) (.binOp op t x y u) (pev s) h=some (v,h')):=rfl
theorem owp_unOp{dst:Option Tmp}{ty:TypeId}{pos:String}{af:Array Edge}{gd:Option (Nat × Bool)}{K:Slots→Heap→Prop}(op:UnOp)(t:TypeId)(x:Operand):owp P ow {dst:=dst,op:= .unOp op t x,type:=ty,pos:=pos,after:=af,guard:=gd} K s h=match eff P (dst.any ow) (.unOp op t x) (pev s) h with|some (r,h')=>K (updO s dst r) h'|none=>False:=rfl
theorem Does_unOp{dst:Option Tmp}{ty:TypeId}{pos:String}{af:Array Edge}{gd:Option (Nat × Bool)}{v:PV}{h':Heap}(op:UnOp)(t:TypeId)(x:Operand):Does P ow {dst:=dst,op:= .unOp op t x,type:=ty,pos:=pos,after:=af,guard:=gd} (pev s) h v h'=(eff P (dst.any ow) (.unOp op t x) (pev s) h=some (v,h')):=rfl
theorem owp_convert{dst:Option Tmp}{ty:TypeId}{pos:String}{af:Array Edge}{gd:Option (Nat × Bool)}{K:Slots→Heap→Prop}(a:TypeId)(b:TypeId)(x:Operand):owp P ow {dst:=dst,op:= .convert a b x,type:=ty,pos:=pos,after:=af,guard:=gd} K s h=match eff P (dst.any ow) (.convert a b x) (pev s) h with|some (r,h')=>K (updO s dst r) h'|none=>False:=rfl
theorem Does_convert{dst:Option Tmp}{ty:TypeId}{pos:String}{af:Array Edge}{gd:Option (Nat × Bool)}{v:PV}{h':Heap}(a:TypeId)(b:TypeId)(x:Operand):Does P ow {dst:=dst,op:= .convert a b x,type:=ty,pos:=pos,after:=af,guard:=gd} (pev s) h v h'=(eff P (dst.any ow) (.convert a b x) (pev s) h=some (v,h')):=rfl
theorem owp_makeInterface{dst:Option Tmp}{ty:TypeId}{pos:String}{af:Array Edge}{gd:Option (Nat × Bool)}{K:Slots→Heap→Prop}(t:TypeId)(x:Operand):owp P ow {dst:=dst,op:= .makeInterface t x,type:=ty,pos:=pos,after:=af,guard:=gd} K s h=match eff P (dst.any ow) (.makeInterface t x) (pev s) h with|some (r,h')=>K (updO s dst r) h'|none=>False:=rfl
theorem Does_makeInterface{dst:Option Tmp}{ty:TypeId}{pos:String}{af:Array Edge}{gd:Option (Nat × Bool)}{v:PV}{h':Heap}(t:TypeId)(x:Operand):Does P ow {dst:=dst,op:= .makeInterface t x,type:=ty,pos:=pos,after:=af,guard:=gd} (pev s) h v h'=(eff P (dst.any ow) (.makeInterface t x) (pev s) h=some (v,h')):=rfl
theorem owp_makeMap{dst:Option Tmp}{ty:TypeId}{pos:String}{af:Array Edge}{gd:Option (Nat × Bool)}{K:Slots→Heap→Prop}(t:TypeId)(r:Option Operand):owp P ow {dst:=dst,op:= .makeMap t r,type:=ty,pos:=pos,after:=af,guard:=gd} K s h=match eff P (dst.any ow) (.makeMap t r) (pev s) h with|some (r,h')=>K (updO s dst r) h'|none=>False:=rfl
theorem Does_makeMap{dst:Option Tmp}{ty:TypeId}{pos:String}{af:Array Edge}{gd:Option (Nat × Bool)}{v:PV}{h':Heap}(t:TypeId)(r:Option Operand):Does P ow {dst:=dst,op:= .makeMap t r,type:=ty,pos:=pos,after:=af,guard:=gd} (pev s) h v h'=(eff P (dst.any ow) (.makeMap t r) (pev s) h=some (v,h')):=rfl
theorem owp_makeSlice{dst:Option Tmp}{ty:TypeId}{pos:String}{af:Array Edge}{gd:Option (Nat × Bool)}{K:Slots→Heap→Prop}(t:TypeId)(l:Operand)(c:Operand):owp P ow {dst:=dst,op:= .makeSlice t l c,type:=ty,pos:=pos,after:=af,guard:=gd} K s h=match eff P (dst.any ow) (.makeSlice t l c) (pev s) h with|some (r,h')=>K (updO s dst r) h'|none=>False:=rfl
theorem Does_makeSlice{dst:Option Tmp}{ty:TypeId}{pos:String}{af:Array Edge}{gd:Option (Nat × Bool)}{v:PV}{h':Heap}(t:TypeId)(l:Operand)(c:Operand):Does P ow {dst:=dst,op:= .makeSlice t l c,type:=ty,pos:=pos,after:=af,guard:=gd} (pev s) h v h'=(eff P (dst.any ow) (.makeSlice t l c) (pev s) h=some (v,h')):=rfl
theorem owp_slice{dst:Option Tmp}{ty:TypeId}{pos:String}{af:Array Edge}{gd:Option (Nat × Bool)}{K:Slots→Heap→Prop}(t:TypeId)(x:Operand)(lo:Option Operand)(hi:Option Operand)(mx:Option Operand):owp P ow {dst:=dst,op:= .slice t x lo hi mx,type:=ty,pos:=pos,after:=af,guard:=gd} K s h=match eff P (dst.any ow) (.slice t x lo hi mx) (pev s) h with|some (r,h')=>K (updO s dst r) h'|none=>False:=rfl
theorem Does_slice{dst:Option Tmp}{ty:TypeId}{pos:String}{af:Array Edge}{gd:Option (Nat × Bool)}{v:PV}{h':Heap}(t:TypeId)(x:Operand)(lo:Option Operand)(hi:Option Operand)(mx:Option Operand):Does P ow {dst:=dst,op:= .slice t x lo hi mx,type:=ty,pos:=pos,after:=af,guard:=gd} (pev s) h v h'=(eff P (dst.any ow) (.slice t x lo hi mx) (pev s) h=some (v,h')):=rfl
theorem owp_fieldAddr{dst:Option Tmp}{ty:TypeId}{pos:String}{af:Array Edge}{gd:Option (Nat × Bool)}{K:Slots→Heap→Prop}(t:TypeId)(x:Operand)(f:Nat):owp P ow {dst:=dst,op:= .fieldAddr t x f,type:=ty,pos:=pos,after:=af,guard:=gd} K s h=match eff P (dst.any ow) (.fieldAddr t x f) (pev s) h with|some (r,h')=>K (updO s dst r) h'|none=>False:=rfl
theorem Does_fieldAddr{dst:Option Tmp}{ty:TypeId}{pos:String}{af:Array Edge}{gd:Option (Nat × Bool)}{v:PV}{h':Heap}(t:TypeId)(x:Operand)(f:Nat):Does P ow {dst:=dst,op:= .fieldAddr t x f,type:=ty,pos:=pos,after:=af,guard:=gd} (pev s) h v h'=(eff P (dst.any ow) (.fieldAddr t x f) (pev s) h=some (v,h')):=rfl
theorem owp_field{dst:Option Tmp}{ty:TypeId}{pos:String}{af:Array Edge}{gd:Option (Nat × Bool)}{K:Slots→Heap→Prop}(t:TypeId)(x:Operand)(f:Nat):owp P ow {dst:=dst,op:= .field t x f,type:=ty,pos:=pos,after:=af,guard:=gd} K s h=match eff P (dst.any ow) (.field t x f) (pev s) h with|some (r,h')=>K (updO s dst r) h'|none=>False:=rfl
theorem Does_field{dst:Option Tmp}{ty:TypeId}{pos:String}{af:Array Edge}{gd:Option (Nat × Bool)}{v:PV}{h':Heap}(t:TypeId)(x:Operand)(f:Nat):Does P ow {dst:=dst,op:= .field t x f,type:=ty,pos:=pos,after:=af,guard:=gd} (pev s) h v h'=(eff P (dst.any ow) (.field t x f) (pev s) h=some (v,h')):=rfl
theorem owp_indexAddr{dst:Option Tmp}{ty:TypeId}{pos:String}{af:Array Edge}{gd:Option (Nat × Bool)}{K:Slots→Heap→Prop}(t:TypeId)(x:Operand)(i:Operand):owp P ow {dst:=dst,op:= .indexAddr t x i,type:=ty,pos:=pos,after:=af,guard:=gd} K s h=match eff P (dst.any ow) (.indexAddr t x i) (pev s) h with|some (r,h')=>K (updO s dst r) h'|none=>False:=rfl
theorem Does_indexAddr{dst:Option Tmp}{ty:TypeId}{pos:String}{af:Array Edge}{gd:Option (Nat × Bool)}{v:PV}{h':Heap}(t:TypeId)(x:Operand)(i:Operand):Does P ow {dst:=dst,op:= .indexAddr t x i,type:=ty,pos:=pos,after:=af,guard:=gd} (pev s) h v h'=(eff P (dst.any ow) (.indexAddr t x i) (pev s) h=some (v,h')):=rfl
theorem owp_index{dst:Option Tmp}{ty:TypeId}{pos:String}{af:Array Edge}{gd:Option (Nat × Bool)}{K:Slots→Heap→Prop}(t:TypeId)(x:Operand)(i:Operand):owp P ow {dst:=dst,op:= .index t x i,type:=ty,pos:=pos,after:=af,guard:=gd} K s h=match eff P (dst.any ow) (.index t x i) (pev s) h with|some (r,h')=>K (updO s dst r) h'|none=>False:=rfl
theorem Does_index{dst:Option Tmp}{ty:TypeId}{pos:String}{af:Array Edge}{gd:Option (Nat × Bool)}{v:PV}{h':Heap}(t:TypeId)(x:Operand)(i:Operand):Does P ow {dst:=dst,op:= .index t x i,type:=ty,pos:=pos,after:=af,guard:=gd} (pev s) h v h'=(eff P (dst.any ow) (.index t x i) (pev s) h=some (v,h')):=rfl
theorem owp_lookup{dst:Option Tmp}{ty:TypeId}{pos:String}{af:Array Edge}{gd:Option (Nat × Bool)}{K:Slots→Heap→Prop}(t:TypeId)(x:Operand)(k:Operand)(ok:Bool):owp P ow {dst:=dst,op:= .lookup t x k ok,type:=ty,pos:=pos,after:=af,guard:=gd} K s h=match eff P (dst.any ow) (.lookup t x k ok) (pev s) h with|some (r,h')=>K (updO s dst r) h'|none=>False:=rfl
theorem Does_lookup{dst:Option Tmp}{ty:TypeId}{pos:String}{af:Array Edge}{gd:Option (Nat × Bool)}{v:PV}{h':Heap}(t:TypeId)(x:Operand)(k:Operand)(ok:Bool):Does P ow {dst:=dst,op:= .lookup t x k ok,type:=ty,pos:=pos,after:=af,guard:=gd} (pev s) h v h'=(eff P (dst.any ow) (.lookup t x k ok) (pev s) h=some (v,h')):=rfl
theorem owp_mapUpdate{dst:Option Tmp}{ty:TypeId}{pos:String}{af:Array Edge}{gd:Option (Nat × Bool)}{K:Slots→Heap→Prop}(t:TypeId)(x:Operand)(k:Operand)(y:Operand):owp P ow {dst:=dst,op:= .mapUpdate t x k y,type:=ty,pos:=pos,after:=af,guard:=gd} K s h=match eff P (dst.any ow) (.mapUpdate t x k y) (pev s) h with|some (r,h')=>K (updO s dst r) h'|none=>False:=rfl
theorem Does_mapUpdate{dst:Option Tmp}{ty:TypeId}{pos:String}{af:Array Edge}{gd:Option (Nat × Bool)}{v:PV}{h':Heap}(t:TypeId)(x:Operand)(k:Operand)(y:Operand):Does P ow {dst:=dst,op:= .mapUpdate t x k y,type:=ty,pos:=pos,after:=af,guard:=gd} (pev s) h v h'=(eff P (dst.any ow) (.mapUpdate t x k y) (pev s) h=some (v,h')):=rfl
theorem owp_typeAssert{dst:Option Tmp}{ty:TypeId}{pos:String}{af:Array Edge}{gd:Option (Nat × Bool)}{K:Slots→Heap→Prop}(x:Operand)(t:TypeId)(u:TypeId)(ok:Bool):owp P ow {dst:=dst,op:= .typeAssert x t u ok,type:=ty,pos:=pos,after:=af,guard:=gd} K s h=match eff P (dst.any ow) (.typeAssert x t u ok) (pev s) h with|some (r,h')=>K (updO s dst r) h'|none=>False:=rfl
theorem Does_typeAssert{dst:Option Tmp}{ty:TypeId}{pos:String}{af:Array Edge}{gd:Option (Nat × Bool)}{v:PV}{h':Heap}(x:Operand)(t:TypeId)(u:TypeId)(ok:Bool):Does P ow {dst:=dst,op:= .typeAssert x t u ok,type:=ty,pos:=pos,after:=af,guard:=gd} (pev s) h v h'=(eff P (dst.any ow) (.typeAssert x t u ok) (pev s) h=some (v,h')):=rfl
theorem owp_extract{dst:Option Tmp}{ty:TypeId}{pos:String}{af:Array Edge}{gd:Option (Nat × Bool)}{K:Slots→Heap→Prop}(x:Operand)(i:Nat):owp P ow {dst:=dst,op:= .extract x i,type:=ty,pos:=pos,after:=af,guard:=gd} K s h=match eff P (dst.any ow) (.extract x i) (pev s) h with|some (r,h')=>K (updO s dst r) h'|none=>False:=rfl
theorem Does_extract{dst:Option Tmp}{ty:TypeId}{pos:String}{af:Array Edge}{gd:Option (Nat × Bool)}{v:PV}{h':Heap}(x:Operand)(i:Nat):Does P ow {dst:=dst,op:= .extract x i,type:=ty,pos:=pos,after:=af,guard:=gd} (pev s) h v h'=(eff P (dst.any ow) (.extract x i) (pev s) h=some (v,h')):=rfl
theorem owp_callB{dst:Option Tmp}{ty:TypeId}{pos:String}{af:Array Edge}{gd:Option (Nat × Bool)}{K:Slots→Heap→Prop}(bb:Builtin)(as:Array Operand)(ts:Array TypeId):owp P ow {dst:=dst,op:= .call {callee:= .builtin bb,args:=as,argTypes:=ts},type:=ty,pos:=pos,after:=af,guard:=gd} K s h=match eff P (dst.any ow) (.call {callee:= .builtin bb,args:=as,argTypes:=ts}) (pev s) h with|some (r,h')=>K (updO s dst r) h'|none=>False:=rfl
theorem Does_callB{dst:Option Tmp}{ty:TypeId}{pos:String}{af:Array Edge}{gd:Option (Nat × Bool)}{v:PV}{h':Heap}(bb:Builtin)(as:Array Operand)(ts:Array TypeId):Does P ow {dst:=dst,op:= .call {callee:= .builtin bb,args:=as,argTypes:=ts},type:=ty,pos:=pos,after:=af,guard:=gd} (pev s) h v h'=(eff P (dst.any ow) (.call {callee:= .builtin bb,args:=as,argTypes:=ts}) (pev s) h=some (v,h')):=rfl
end
theorem lenP_imm(h:Heap)(z:Nat)(rows:List (List PV)):lenP h (.imm z rows)=some rows.length:=rfl
theorem lenP_emp(h:Heap):lenP h .emp=some 0:=rfl
theorem lenP_nil(h:Heap):lenP h (.sc (.slice none 0 0))=some 0:=rfl
theorem lenP_own(h:Heap)(id off len:Nat):lenP h (.own id off len)=some len:=rfl
theorem lenP_str(h:Heap)(b:ByteArray):lenP h (.sc (.string b))=some b.size:=rfl
theorem lenP_mnil(h:Heap):lenP h (.sc (.map none))=some 0:=rfl
theorem lenP_mp(h:Heap)(id:Nat):lenP h (.mp id)=match h.obj id with|some (.map es)=>some es.length|_=>none:=rfl
theorem lenK_imm(k z:Nat)(rows:List (List PV)):lenK k (.imm z rows)=(k==5):=rfl
theorem lenK_emp(k:Nat):lenK k .emp=(k==5):=rfl
theorem lenK_nil(k:Nat):lenK k (.sc (.slice none 0 0))=(k==5):=rfl
theorem lenK_own(k id off len:Nat):lenK k (.own id off len)=(k==5):=rfl
theorem lenK_str(k:Nat)(b:ByteArray):lenK k (.sc (.string b))=(k==3):=rfl
theorem lenK_mnil(k:Nat):lenK k (.sc (.map none))=(k==6):=rfl
theorem lenK_mp(k id:Nat):lenK k (.mp id)=(k==6):=rfl
theorem idx_imm(h:Heap)(z z':Nat)(rows:List (List PV))(i:Int):idx h z (.imm z' rows) i=if 0≤i then(if z'=z then(rows[i.toNat]?).map .cptr else none)else none:=rfl
theorem idx_own(h:Heap)(z id off len:Nat)(i:Int):idx h z (.own id off len) i=if 0≤i then(match h.obj id with|some (.arr z' _)=>if z'=z∧i.toNat<len then some (.ptr id (off+i.toNat) 0)else none|_=>none)else none:=rfl
theorem idxA_ptr(n z id r f:Nat)(i:Int):idxA n z (.ptr id r f) i=if 0≤i∧i<n then some (.ptr id r (f+i.toNat*z))else none:=rfl
theorem idxA_cptr(n z:Nat)(cs:List PV)(i:Int):idxA n z (.cptr cs) i=if 0≤i∧i<n then(if i.toNat*z+z≤cs.length then some (.cptr ((cs.drop (i.toNat*z)).take z))else none)else none:=rfl
theorem fldP_ptr(off n id i f:Nat):fldP off n (.ptr id i f)=if 0<n then some (.ptr id i (f+off))else none:=rfl
theorem fldP_cptr(off n:Nat)(cs:List PV):fldP off n (.cptr cs)=if 0<n∧off+n≤cs.length then some (.cptr ((cs.drop off).take n))else none:=rfl
theorem rd_ptr(h:Heap)(id i f:Nat):rd h (.ptr id i f)=match h.obj id with|some (.arr _ rows)=>(rows[i]?).map (·.drop f)|_=>none:=rfl
theorem rd_cptr(h:Heap)(cs:List PV):rd h (.cptr cs)=some cs:=rfl
theorem wr_ptr(h:Heap)(vc:List PV)(id i f:Nat):wr h vc (.ptr id i f)=match h.obj id with|some (.arr z rows)=>(match rows[i]? with|some r=>if f+vc.length≤r.length then some (h.set id (.arr z (rows.set i (putC r f vc))))else none|none=>none)|_=>none:=rfl
theorem view_imm(h:Heap)(z:Nat)(rows:List (List PV)):view h (.imm z rows)=some rows:=rfl
theorem view_emp(h:Heap):view h .emp=some []:=rfl
theorem view_nil(h:Heap):view h (.sc (.slice none 0 0))=some []:=rfl
theorem view_own(h:Heap)(id off len:Nat):view h (.own id off len)=match h.obj id with|some (.arr _ rows)=>if off+len≤rows.length then some ((rows.drop off).take len)else none|_=>none:=rfl
theorem zOk_imm(h:Heap)(z z':Nat)(rows:List (List PV)):zOk h z (.imm z' rows)=(z'==z):=rfl
theorem zOk_emp(h:Heap)(z:Nat):zOk h z .emp=true:=rfl
theorem zOk_nil(h:Heap)(z:Nat):zOk h z (.sc (.slice none 0 0))=true:=rfl
theorem zOk_own(h:Heap)(z id off len:Nat):zOk h z (.own id off len)=match h.obj id with|some (.arr z' _)=>z'==z|_=>false:=rfl
theorem isTail_emp(h:Heap):isTail h .emp=some (h,[]):=rfl
theorem isTail_nil(h:Heap):isTail h (.sc (.slice none 0 0))=some (h,[]):=rfl
theorem isTail_own(h:Heap)(id len:Nat):isTail h (.own id 0 len)=match h.obj id with|some (.arr _ rows)=>if 0+len≤rows.length then some (h.kill id,(rows.drop 0).take len)else none|_=>none:=rfl
theorem isSl_imm(z:Nat)(rows:List (List PV)):isSl (.imm z rows)=true:=rfl
theorem isSl_own(id off len:Nat):isSl (.own id off len)=true:=rfl
theorem isSl_emp:isSl .emp=true:=rfl
theorem zB_0:zB 0=true:=rfl
theorem isSl_nil:isSl (.sc (.slice none 0 0))=true:=rfl
theorem mview_nil(h:Heap):mview h (.sc (.map none))=some []:=rfl
theorem mview_mp(h:Heap)(id:Nat):mview h (.mp id)=match h.obj id with|some (.map es)=>some es|_=>none:=rfl
theorem subL_imm(z z':Nat)(rows:List (List PV))(h:Heap)(lo hi:Option Int):subL z (.imm z' rows) h lo hi=if 0≤lo.getD 0∧lo.getD 0≤hi.getD rows.length∧hi.getD rows.length≤rows.length∧(z'==z)=true then some (.imm z' ((rows.drop (lo.getD 0).toNat).take (hi.getD rows.length-lo.getD 0).toNat))else none:=rfl
theorem subL_own(z id off len:Nat)(h:Heap)(lo hi:Option Int):subL z (.own id off len) h lo hi=if 0≤lo.getD 0∧lo.getD 0≤hi.getD len∧hi.getD len≤len∧zOk h z (.own id off len)=true then(match h.obj id with|some (.arr _ _)=>some (.own id (off+(lo.getD 0).toNat) (hi.getD len-lo.getD 0).toNat)|_=>none)else none:=rfl
theorem cells_agg(l:List PV):PV.cells (.agg l)=l:=rfl
theorem cells_sc(v:Value):PV.cells (.sc v)=[.sc v]:=rfl
theorem cells_imm(z:Nat)(l:List (List PV)):PV.cells (.imm z l)=[.imm z l]:=rfl
theorem cells_own(i o l:Nat):PV.cells (.own i o l)=[.own i o l]:=rfl
theorem cells_ptr(i o l:Nat):PV.cells (.ptr i o l)=[.ptr i o l]:=rfl
theorem cells_cptr(l:List PV):PV.cells (.cptr l)=[.cptr l]:=rfl
theorem cells_emp:PV.cells .emp=[.emp]:=rfl
theorem cells_mp(i:Nat):PV.cells (.mp i)=[.mp i]:=rfl
theorem oneC_int(k:IntKind)(i:Int):oneC (.sc (.int k i))=true:=rfl
theorem oneC_bool(b:Bool):oneC (.sc (.bool b))=true:=rfl
theorem oneC_str(b:ByteArray):oneC (.sc (.string b))=true:=rfl
theorem oneC_nilI:oneC (.sc .nilIface)=true:=rfl
theorem oneC_if(t:TypeId)(v:Value):oneC (.sc (.iface t v))=true:=rfl
theorem oneC_p(a:Option Addr):oneC (.sc (.pointer a))=true:=rfl
theorem oneC_s(a:Option Addr)(l c:Nat):oneC (.sc (.slice a l c))=true:=rfl
theorem oneC_m(a:Option Nat):oneC (.sc (.map a))=true:=rfl
theorem oneC_imm(z:Nat)(l:List (List PV)):oneC (.imm z l)=true:=rfl
theorem oneC_own(i o l:Nat):oneC (.own i o l)=true:=rfl
theorem oneC_ptr(i o l:Nat):oneC (.ptr i o l)=true:=rfl
theorem oneC_cptr(l:List PV):oneC (.cptr l)=true:=rfl
theorem oneC_emp:oneC .emp=true:=rfl
theorem oneC_mp(i:Nat):oneC (.mp i)=true:=rfl
def Wf(h:Heap):Prop:= ∀ id,(h.obj id).isSome=true→id<h.next
theorem pcall_wf{P:Program}{f:FuncId}{args:List PV}{h:Heap}{K:PV→Heap→Prop}(hb:hasBody P f=true)(hk:Wf h→PCall P f args h K):PCall P f args h K:=
 fun β w vals sm hr=>hk sm.lt β w vals sm hr
def rowsI(xs:List Int):List (List PV):=xs.map fun x=>[.sc (.int .i64 x)]
theorem rowsI_len(xs:List Int):(rowsI xs).length=xs.length:=by simp[rowsI]
theorem wrap64{n:Int}(h1: -9223372036854775808≤n)(h2:n≤9223372036854775807):IntKind.i64.wrap n=n:=IntWalk.i64_in _ ⟨h1,h2⟩
mutual
def FrzTo(n:Nat)(h':Heap):PV→PV→Prop
 | .imm z rows, r' => (r' = .imm z rows ∧ inNR n rows) ∨ (rows = [] ∧ (r' = .emp ∨ r' = .sc (.slice none 0 0))) ∨
   ∃ id off len rows',r'= .own id off len∧n≤id∧h'.obj id=some (.arr z rows')∧off+len≤rows'.length∧FrzR n h' rows ((rows'.drop off).take len)
 | .agg cs,r'=> ∃ cs',r'= .agg cs'∧FrzL n h' cs cs'
 | .tup cs,r'=> ∃ cs',r'= .tup cs'∧FrzL n h' cs cs'
 | .sc v,r'=>r'= .sc v
 | .ptr id i f,r'=>r'= .ptr id i f∧id<n
 | .cptr cs,r'=>(r'= .cptr cs∧inNL n cs)∨ ∃ id i f z rows' q,r'= .ptr id i f∧n≤id∧h'.obj id=some (.arr z rows')∧rows'[i]? =some q∧FrzL n h' cs (q.drop f)
 | .own id off len,r'=>r'= .own id off len∧id<n
 | .emp,r'=>r'= .emp
 | .mp id,r'=>r'= .mp id∧id<n
 | .fn f a b,r'=>r'= .fn f a b∧inNL n a∧inNL n b
 | .ab k lo hi m r,r'=>r'= .ab k lo hi m r
 | .lin a b lo hi,r'=>r'= .lin a b lo hi
def FrzL(n:Nat)(h':Heap):List PV→List PV→Prop
 |[],[]=>True
 |p::ps,q::qs=>FrzTo n h' p q∧FrzL n h' ps qs
 |_,_=>False
def FrzR(n:Nat)(h':Heap):List (List PV)→List (List PV)→Prop
 |[],[]=>True
 |p::ps,q::qs=>FrzL n h' p q∧FrzR n h' ps qs
 |_,_=>False
end
section
variable {β:Env}{n m:Nat}{F F':Nat→Prop}{w:World}
theorem FrzL.len{h':Heap}:(l l':List PV)→FrzL n h' l l'→l.length=l'.length
 |[],[],_=>rfl
 |[],_::_,h=>by simp only[FrzL]at h
 |_::_,[],h=>by simp only[FrzL]at h
 |_::ps,_::qs,h=>by simp only[FrzL]at h;simp only[List.length_cons,FrzL.len ps qs h.2]
theorem FrzR.len{h':Heap}:(l l':List (List PV))→FrzR n h' l l'→l.length=l'.length
 |[],[],_=>rfl
 |[],_::_,h=>by simp only[FrzR]at h
 |_::_,[],h=>by simp only[FrzR]at h
 |_::ps,_::qs,h=>by simp only[FrzR]at h;simp only[List.length_cons,FrzR.len ps qs h.2]
mutual
theorem FrzTo.rep{h':Heap}(sm:Sim β h' w)(hF: ∀ b,Fz β h' w b→F' b)(hB: ∀ id b,n≤id→(h'.obj id).isSome=true→(β id).b=some b→F' b):(p p':PV)→(x:Value)→FrzTo n h' p p'→Rep β h'.next (Fz β h' w) w p' x→Rep β n F' w p x
 | .imm z rows,p',x,hf,hr=>by
  simp only[FrzTo]at hf;rcases hf with⟨rfl,hs⟩|⟨rfl,hf⟩|⟨id,off,len,rows',rfl,hid,hob,hle,hf⟩
  ·exact Rep.low hF _ x (by simpa only[inN]using hs) hr
  ·rcases hf with rfl|rfl
   ·simp only[Rep]at hr⊢;obtain⟨a,rfl⟩:=hr;exact⟨a,0,rfl,Nat.le_refl _,Nat.zero_le _,.inl trivial⟩
   ·simp only[Rep]at hr⊢;exact⟨none,0,hr,Nat.le_refl _,Nat.zero_le _,.inl trivial⟩
  ·have hl:=FrzR.len _ _ hf;have hl2:((rows'.drop off).take len).length=len:=(by simp;omega);simp only[Rep]at hr⊢;obtain⟨_,a,cap,rfl,h2,h2',h3⟩:=hr;refine⟨a,cap,by rw[hl,hl2],by omega,h2',?_⟩;rcases h3 with h3|⟨b,h4,h5,h6⟩
   ·left;exact List.eq_nil_of_length_eq_zero (by omega)
   ·have hok:=sm.ok id _ hob;simp only[ObjOk]at hok;rcases hok.2 with⟨h7,h8⟩|⟨b',c,e,fr,g5,g6,g7,g8,g9,g10⟩
    ·rw [h7]at h4;simp at h4
    ·rw [h4]at g5;simp at g5;subst g5;right;refine⟨b,_,hB id b hid (by rw[hob];try rfl) h4,h5,?_⟩;rw[hok.1];exact FrzR.rep sm hF hB z rows _ b _ hf ((g10.drop off).take len)
 | .agg cs,p',x,hf,hr=>by
  simp only[FrzTo]at hf;obtain⟨cs',rfl,hf⟩:=hf;simp only[Rep]at hr⊢;obtain⟨xs,h1,h2,h3⟩:=hr;exact⟨xs,h1,h2,FrzL.rep sm hF hB cs cs' xs hf h3⟩
 | .tup cs,p',x,hf,hr=>by
  simp only[FrzTo]at hf;obtain⟨cs',rfl,hf⟩:=hf;simp only[Rep]at hr⊢;obtain⟨xs,h1,h3⟩:=hr;exact⟨xs,h1,FrzL.rep sm hF hB cs cs' xs hf h3⟩
 | .sc v,p',x,hf,hr=>by simp only[FrzTo]at hf;subst hf;simpa only[Rep]using hr
 | .ptr _ _ _,p',x,hf,hr=>by simp only[FrzTo]at hf;obtain⟨rfl,hf⟩:=hf;exact Rep.low hF _ x (by simpa only[inN]using hf) hr
 | .cptr cs,p',x,hf,hr=>by
  simp only[FrzTo]at hf;rcases hf with⟨rfl,hf⟩|⟨id,i,f,z,rows',q,rfl,hid,hob,hq,hf⟩
  ·exact Rep.low hF _ x (by simpa only[inN]using hf) hr
  ·simp only[Rep]at hr⊢;obtain⟨_,b,hb,rfl⟩:=hr;have hok:=sm.ok id _ hob;simp only[ObjOk]at hok;rcases hok.2 with⟨h7,h8⟩|⟨b',c,e,fr,g5,g6,g7,g8,g9,g10⟩
   ·rw [h7]at hb;simp at hb
   ·rw [hb]at g5;simp at g5;subst g5;refine⟨b,_,hB id b hid (by rw[hob];try rfl) hb,rfl,?_⟩;rw[hok.1];exact FrzS.rep sm hF hB cs _ b _ hf (((RepR_iff.1 g10) i q hq).2.drop f)
 | .own _ _ _,p',x,hf,hr=>by simp only[FrzTo]at hf;obtain⟨rfl,hf⟩:=hf;exact Rep.low hF _ x (by simpa only[inN]using hf) hr
 | .emp,p',x,hf,hr=>by simp only[FrzTo]at hf;subst hf;simpa only[Rep]using hr
 | .mp _,p',x,hf,hr=>by simp only[FrzTo]at hf;obtain⟨rfl,hf⟩:=hf;exact Rep.low hF _ x (by simpa only[inN]using hf) hr
 | .fn _ _ _,p',x,hf,hr=>by simp only[FrzTo]at hf;obtain⟨rfl,hf⟩:=hf;exact Rep.low hF _ x (by simpa only[inN]using hf) hr
 | .ab _ _ _ _ _,p',x,hf,hr=>by simp only[FrzTo]at hf;subst hf;simpa only[Rep]using hr
 | .lin _ _ _ _,p',x,hf,hr=>by simp only[FrzTo]at hf;subst hf;simpa only[Rep]using hr
theorem FrzL.rep{h':Heap}(sm:Sim β h' w)(hF: ∀ b,Fz β h' w b→F' b)(hB: ∀ id b,n≤id→(h'.obj id).isSome=true→(β id).b=some b→F' b):(l l':List PV)→(xs:List Value)→FrzL n h' l l'→RepL β h'.next (Fz β h' w) w l' xs→RepL β n F' w l xs
 |[],[],[],_,_=>by simp only[RepL]
 |[],[],_::_,_,h=>by simp only[RepL]at h
 |[],_::_,_,h,_=>by simp only[FrzL]at h
 |_::_,[],_,h,_=>by simp only[FrzL]at h
 |_::_,_::_,[],_,h=>by simp only[RepL]at h
 |p::ps,q::qs,v::vs,hf,hr=>by
  simp only[FrzL]at hf;simp only[RepL]at hr⊢;exact⟨FrzTo.rep sm hF hB p q v hf.1 hr.1,FrzL.rep sm hF hB ps qs vs hf.2 hr.2⟩
theorem FrzR.rep{h':Heap}(sm:Sim β h' w)(hF: ∀ b,Fz β h' w b→F' b)(hB: ∀ id b,n≤id→(h'.obj id).isSome=true→(β id).b=some b→F' b)(z:Nat):(l l':List (List PV))→(b o:Nat)→FrzR n h' l l'→RepR β h'.next (Fz β h' w) w z l' b o→RepR β n F' w z l b o
 |[],[],_,_,_,_=>by simp only[RepR]
 |[],_::_,_,_,h,_=>by simp only[FrzR]at h
 |_::_,[],_,_,h,_=>by simp only[FrzR]at h
 |p::ps,q::qs,b,o,hf,hr=>by
  simp only[FrzR]at hf;simp only[RepR]at hr⊢;exact⟨⟨by rw[FrzL.len p q hf.1];exact hr.1.1,FrzS.rep sm hF hB p q b o hf.1 hr.1.2⟩,FrzR.rep sm hF hB z ps qs b (o+z) hf.2 hr.2⟩
theorem FrzS.rep{h':Heap}(sm:Sim β h' w)(hF: ∀ b,Fz β h' w b→F' b)(hB: ∀ id b,n≤id→(h'.obj id).isSome=true→(β id).b=some b→F' b):(l l':List PV)→(b o:Nat)→FrzL n h' l l'→RepS β h'.next (Fz β h' w) w l' b o→RepS β n F' w l b o
 |[],[],_,_,_,_=>by simp only[RepS]
 |[],_::_,_,_,h,_=>by simp only[FrzL]at h
 |_::_,[],_,_,h,_=>by simp only[FrzL]at h
 |p::ps,q::qs,b,o,hf,hr=>by
  simp only[FrzL]at hf;simp only[RepS]at hr⊢;obtain⟨⟨v,g1,g2,g3⟩,g4⟩:=hr;exact⟨⟨v,g1,g2,FrzTo.rep sm hF hB p q v hf.1 g3⟩,FrzS.rep sm hF hB ps qs b (o+1) hf.2 g4⟩
end
end
section
variable {P:Program}
theorem PCall.drop{f:FuncId}{args:List PV}{h:Heap}{K:PV→Heap→Prop}
  (hc:PCall P f args h (fun r' h'=> ∃ r h2,K r h2∧FrzTo h2.next h' r r'∧h.next≤h2.next∧(∀ id o,h2.obj id=some o→h'.obj id=some o∧id<h2.next∧(h.obj id=some o∨inNO h2.next o)))):PCall P f args h K:=by
 refine fun β w vals sm hr=>(hc β w vals sm hr).mono ?_;rintro e w' ⟨r',h',β',v,rfl,⟨r,h2,hK,hf,hn,ho⟩,sm',hrep,ex⟩;have hF: ∀ b,Fz β' h' w' b→Fz β' h2 w' b:=fun b hb=>⟨hb.1,fun id hid=>by
  obtain⟨o,hoo⟩:=Option.isSome_iff_exists.1 hid;exact hb.2.1 id (by rw[(ho id o hoo).1];try rfl),hb.2.2⟩
 have hB: ∀ id b,h2.next≤id→(h'.obj id).isSome=true→(β' id).b=some b→Fz β' h2 w' b:=by
  intro id b hid hs hb;obtain⟨o,hoo⟩:=Option.isSome_iff_exists.1 hs;refine⟨sm'.blk_lt hoo hb,fun j hj hjb=>?_,sm'.nx id hs b hb⟩;obtain⟨o2,ho2⟩:=Option.isSome_iff_exists.1 hj;obtain⟨h3,h4,_⟩:=ho j o2 ho2;have:=sm'.inj id j hs (by rw[h3];try rfl) b hb hjb;omega
 refine⟨r,h2,β',v,rfl,hK,⟨fun id hid=>?_,fun id o hoo=>?_,fun i j hi hj=>?_,sm'.xs,fun id hid=>?_,fun id hid=>by obtain⟨o,hoo⟩:=Option.isSome_iff_exists.1 hid;exact sm'.o0 id (by rw[(ho id o hoo).1];try rfl)⟩,?_,⟨ex.os,ex.tape,ex.output,ex.size,hn,ex.beta,ex.X,ex.xh,fun b hb=>⟨hF b (ex.fz b hb).1,(ex.fz b hb).2⟩,ex.drawn⟩⟩
 ·obtain ⟨o,hoo⟩:=Option.isSome_iff_exists.1 hid;exact(ho id o hoo).2.1
 ·obtain ⟨h3,h4,h5⟩:=ho id o hoo;have hs:inNO h2.next o:=by
   rcases h5 with h5|h5
   ·have h6:=(sm.ok id o h5).inN
    -- what is below the first next is below the second
    have up: ∀ (o:AObj),inNO h.next o→inNO h2.next o:=by
     intro o hso;cases o with
     |arr z rows=>exact inNR_up hn rows hso
     |map es=>exact inNL_up hn _ hso
     |glb g lo hi=>simp only[inNO]
    exact up o h6
   ·exact h5
  exact ObjOk.low hF hs (sm'.ok id o h3)
 ·obtain ⟨o,hoo⟩:=Option.isSome_iff_exists.1 hi;obtain⟨o2,ho2⟩:=Option.isSome_iff_exists.1 hj;exact sm'.inj i j (by rw[(ho i o hoo).1];try rfl) (by rw[(ho j o2 ho2).1];try rfl)
 ·obtain ⟨o,hoo⟩:=Option.isSome_iff_exists.1 hid;exact sm'.nx id (by rw[(ho id o hoo).1];try rfl)
 ·exact FrzTo.rep sm' hF hB r r' v hf hrep
end
def below(n:Nat)(h:Heap):Heap:=⟨h.next,fun j=>if j<n then h.obj j else none⟩
theorem ex2_eq{α β:Type}{a:α}{b:β}{Q:α→β→Prop}:(∃ v h',(a=v∧b=h')∧Q v h')↔Q a b:=
 ⟨fun⟨_,_,⟨rfl,rfl⟩,q⟩=>q,fun q=>⟨a,b,⟨rfl,rfl⟩,q⟩⟩
theorem andK_u64(a b:Int):andK .u64 a b=IntKind.u64.wrap (((BitVec.ofInt 64 a&&&BitVec.ofInt 64 b).toNat:Nat):Int):=rfl
theorem orK_u64(a b:Int):orK .u64 a b=IntKind.u64.wrap (((BitVec.ofInt 64 a|||BitVec.ofInt 64 b).toNat:Nat):Int):=rfl
theorem xorK_u64(a b:Int):xorK .u64 a b=IntKind.u64.wrap (((BitVec.ofInt 64 a ^^^ BitVec.ofInt 64 b).toNat:Nat):Int):=rfl
theorem andnK_u64(a b:Int):andnK .u64 a b=IntKind.u64.wrap (((BitVec.ofInt 64 a&&& ~~~ BitVec.ofInt 64 b).toNat:Nat):Int):=rfl
theorem andK_i64(a b:Int):andK .i64 a b=IntKind.i64.wrap (((BitVec.ofInt 64 a&&&BitVec.ofInt 64 b).toNat:Nat):Int):=rfl
theorem orK_i64(a b:Int):orK .i64 a b=IntKind.i64.wrap (((BitVec.ofInt 64 a|||BitVec.ofInt 64 b).toNat:Nat):Int):=rfl
theorem xorK_i64(a b:Int):xorK .i64 a b=IntKind.i64.wrap (((BitVec.ofInt 64 a ^^^ BitVec.ofInt 64 b).toNat:Nat):Int):=rfl
theorem andnK_i64(a b:Int):andnK .i64 a b=IntKind.i64.wrap (((BitVec.ofInt 64 a&&& ~~~ BitVec.ofInt 64 b).toNat:Nat):Int):=rfl
theorem andK_u8(a b:Int):andK .u8 a b=IntKind.u8.wrap (((BitVec.ofInt 8 a&&&BitVec.ofInt 8 b).toNat:Nat):Int):=rfl
theorem orK_u8(a b:Int):orK .u8 a b=IntKind.u8.wrap (((BitVec.ofInt 8 a|||BitVec.ofInt 8 b).toNat:Nat):Int):=rfl
theorem xorK_u8(a b:Int):xorK .u8 a b=IntKind.u8.wrap (((BitVec.ofInt 8 a ^^^ BitVec.ofInt 8 b).toNat:Nat):Int):=rfl
theorem andnK_u8(a b:Int):andnK .u8 a b=IntKind.u8.wrap (((BitVec.ofInt 8 a&&& ~~~ BitVec.ofInt 8 b).toNat:Nat):Int):=rfl
end Go.AM
