/- What the claim rests on, part 6: the abstract machine, contracts of the functions, plain data. -/
import Derived.Lib.IndexEntry
import Derived.OpenShut
import Derived.ChangeShapes
import Derived.SizedLaws
import Derived.HandedShaped
import Derived.Test.YtnldekadkjdbcaaGreatZf5
set_option linter.unusedVariables false
set_option linter.unusedSimpArgs false
set_option linter.unusedSectionVars false
namespace Go.AM
def mnO:Option Nat→Option Nat→Option Nat
 |none,b=>b
 |some a,none=>some a
 |some a,some b=>if a≤b then some a else some b
def Tch(q:Option Nat)(h h':Heap):Prop:=match q with
 |none=>h'=h
 |some m=>h.next≤h'.next∧ ∀ id,id<m→h'.obj id=h.obj id
theorem Tch.trans{q q':Option Nat}{h h1 h':Heap}(a:Tch q h h1)(b:Tch q' h1 h'):Tch (mnO q q') h h':=by
 cases q with
 |none=>simp only[Tch]at a;subst a;simpa only[mnO]using b
 |some m=>
  cases q' with
  |none=>simp only[Tch]at b;subst b;simpa only[mnO]using a
  |some m'=>
   simp only[Tch]at a b;simp only[mnO];split<;>simp only[Tch]<;>refine⟨by omega,fun id hid=>?_⟩
   ·rw [b.2 id (by omega),a.2 id hid]
   ·rw [b.2 id hid,a.2 id (by omega)]
def ptrOf:PV→Nat
 | .ptr id _ _=>id
 |_=>0
def mapOf:PV→Nat
 | .mp id=>id
 |_=>0
def ownOf(n:Nat):PV→Nat
 | .own id _ _=>if id≤n then id else n
 |_=>n
def tchO(op:Op)(ρ:Operand→PV)(h:Heap):Nat:=match op with
 | .store _ a _=>ptrOf (ρ a)
 | .mapUpdate _ x _ _=>mapOf (ρ x)
 | .call {callee:= .builtin .append,args:=args,.. }=>(match args.toList with
  |x::_=>ownOf h.next (ρ x)
  |[]=>0)
 | .call {callee:= .builtin .clear,args:=args,.. }=>(match args.toList with
  |x::_=>ownOf h.next (ρ x)
  |[]=>0)
 |_=>h.next
theorem tch_new{h:Heap}{o:AObj}:Tch (some h.next) h (h.new o):=by
 simp only[Tch,new_next];exact⟨by omega,fun id hid=>by rw[new_obj,if_neg (by omega)]⟩
theorem tch_set{h:Heap}{i:Nat}{o:AObj}:Tch (some i) h (h.set i o):=by
 simp only[Tch,set_next];exact⟨by omega,fun id hid=>by rw[set_obj,if_neg (by omega)]⟩
theorem tch_id{h:Heap}{m:Nat}:Tch (some m) h h:=⟨Nat.le_refl _,fun _ _=>rfl⟩
theorem app_tch{z bytes:Nat}{h h':Heap}{x y v:PV}(ha:app z bytes h x y=some (v,h')):Tch (some (ownOf h.next x)) h h':=by
 unfold app at ha;split at ha
 case isFalse=>simp at ha
 split at ha
 case h_2=>simp at ha
 rename_i nw h1 old hv ht;split at ha
 case isFalse=>simp at ha
 simp only[Option.some.injEq,Prod.mk.injEq]at ha;obtain⟨_,rfl⟩:=ha;unfold isTail at ht;split at ht
 ·simp only[Option.some.injEq,Prod.mk.injEq]at ht;obtain⟨rfl,rfl⟩:=ht;exact tch_new
 ·simp only[Option.some.injEq,Prod.mk.injEq]at ht;obtain⟨rfl,rfl⟩:=ht;exact tch_new
 ·split at ht
  case h_2=>simp at ht
  split at ht
  case isFalse=>simp at ht
  simp only[Option.some.injEq,Prod.mk.injEq]at ht;obtain⟨rfl,rfl⟩:=ht;simp only[Tch,new_next,kill_next,ownOf];refine⟨by omega,fun id hid=>?_⟩;rw[new_obj,kill_next];split at hid
  ·rw [if_neg (by omega),kill_obj,if_neg (by omega)]
  ·rw [if_neg (by omega),kill_obj,if_neg (by omega)]
 ·simp at ht
theorem wr_tch{h h':Heap}{vc:List PV}{p:PV}(hw:wr h vc p=some h'):Tch (some (ptrOf p)) h h':=by
 cases p with
 |ptr id i f=>
  simp only[wr]at hw;split at hw
  ·split at hw
   ·split at hw
    ·simp at hw;subst hw;exact tch_set
    ·simp at hw
   ·simp at hw
  ·simp at hw
 |_=>simp[wr]at hw
theorem clr_tch{z:Nat}{zr:List PV}{h h':Heap}{x:PV}(hc:clr h z zr x=some h'):Tch (some (ownOf h.next x)) h h':=by
 unfold clr at hc;split at hc
 ·split at hc
  case h_2=>simp at hc
  split at hc
  case isFalse=>simp at hc
  simp only[Option.some.injEq]at hc;subst hc;simp only[Tch,set_next,ownOf];refine⟨Nat.le_refl _,fun id hid=>?_⟩;rw[set_obj];split at hid
  ·rw [if_neg (by omega)]
  ·rw [if_neg (by omega)]
 ·simp only[Option.some.injEq]at hc;subst hc;exact tch_id
 ·simp only[Option.some.injEq]at hc;subst hc;exact tch_id
 ·simp at hc
theorem eff_tch{P:Program}{ow:Bool}{op:Op}{ρ:Operand→PV}{h h':Heap}{v:PV}(he:eff P ow op ρ h=some (v,h')):Tch (some (tchO op ρ h)) h h':=by
  unfold eff at he;split at he;all_goals(repeat'(split at he))
  all_goals first
    |(simp[Option.bind_eq_some_iff,Option.map_eq_some_iff]at he;done)
    |(simp only[Option.some.injEq,Prod.mk.injEq]at he;obtain⟨_,rfl⟩:=he;exact tch_id)
    |(simp only[Option.some.injEq,Prod.mk.injEq]at he;obtain⟨_,rfl⟩:=he;exact tch_new)
    |(simp only[Option.map_eq_some_iff,Prod.mk.injEq]at he;obtain⟨_,_,_,rfl⟩:=he;exact tch_id)
    |(simp[Option.bind_eq_some_iff,Option.map_eq_some_iff]at he;grind [tch_id,tch_new,tch_set])
    | (simp only [Option.bind_eq_some_iff] at he
       obtain⟨_,_,he⟩:=he
       (first
         | (split at he
            · simp only[Option.some.injEq,Prod.mk.injEq]at he;obtain⟨_,rfl⟩:=he;exact tch_new
            · simp at he)
         | (obtain ⟨_, _, he⟩ := he
            split at he
            · simp only [Option.bind_eq_some_iff] at he;obtain⟨_,_,he⟩:=he;simp only[Option.some.injEq,Prod.mk.injEq]at he;obtain⟨_,rfl⟩:=he;exact tch_new
            · simp at he)
         | (obtain ⟨_, _, _, _, _, _, he⟩ := he
            split at he
            · simp only[Option.some.injEq,Prod.mk.injEq]at he;obtain⟨_,rfl⟩:=he;exact tch_new
            · simp at he)
         | (split at he
            · simp only [Option.map_eq_some_iff, Prod.mk.injEq] at he;obtain⟨_,hw,_,rfl⟩:=he;exact wr_tch hw
            · simp at he)))
    |skip
  · rename_i hid _ _ _ _;simp only[Option.bind_eq_some_iff]at he;obtain⟨_,_,he⟩:=he;split at he
    · simp only [Option.map_eq_some_iff, Prod.mk.injEq] at he;obtain⟨es',_,_,rfl⟩:=he;simp only[tchO];simp only[*,mapOf];exact tch_set
    · simp at he
  · rename_i hl htu;simp only[Option.bind_eq_some_iff]at he;obtain⟨_,_,he⟩:=he;have:=app_tch he;simp only[tchO];simp only[*]
  · simp only [Option.bind_eq_some_iff] at he;obtain⟨_,_,_,_,he⟩:=he;split at he
    case isFalse=>simp at he
    simp only[Option.map_eq_some_iff,Prod.mk.injEq]at he;obtain⟨_,hc,_,rfl⟩:=he;have:=clr_tch hc;simp only[tchO];simp only[*]
mutual
def inNb(n:Nat):PV→Bool
 | .sc _=>true
 | .ptr id _ _=>decide (id<n)
 | .cptr cs=>inNLb n cs
 | .own id _ _=>decide (id<n)
 | .imm _ rows=>inNRb n rows
 | .emp=>true
 | .mp id=>decide (id<n)
 | .agg cs=>inNLb n cs
 | .tup cs=>inNLb n cs
 | .fn _ a b=>inNLb n a&&inNLb n b
 | .ab _ _ _ _ _=>true
def inNLb(n:Nat):List PV→Bool
 |[]=>true
 |p::ps=>inNb n p&&inNLb n ps
def inNRb(n:Nat):List (List PV)→Bool
 |[]=>true
 |r::rs=>inNLb n r&&inNRb n rs
end
mutual
theorem inNb_ok{n:Nat}:(p:PV)→inNb n p=true→inN n p
 | .sc _,_=>by simp only[inN]
 | .ptr _ _ _,h=>by simp only[inNb,decide_eq_true_eq]at h;simpa only[inN]using h
 | .cptr cs,h=>by simp only[inNb]at h;simp only[inN];exact inNLb_ok cs h
 | .own _ _ _,h=>by simp only[inNb,decide_eq_true_eq]at h;simpa only[inN]using h
 | .imm _ rows,h=>by simp only[inNb]at h;simp only[inN];exact inNRb_ok rows h
 | .emp,_=>by simp only[inN]
 | .mp _,h=>by simp only[inNb,decide_eq_true_eq]at h;simpa only[inN]using h
 | .agg cs,h=>by simp only[inNb]at h;simp only[inN];exact inNLb_ok cs h
 | .tup cs,h=>by simp only[inNb]at h;simp only[inN];exact inNLb_ok cs h
 | .fn _ a b,h=>by simp only[inNb,Bool.and_eq_true]at h;simp only[inN];exact⟨inNLb_ok a h.1,inNLb_ok b h.2⟩
 | .ab _ _ _ _ _,_=>by simp only[inN]
theorem inNLb_ok{n:Nat}:(l:List PV)→inNLb n l=true→inNL n l
 |[],_=>by simp only[inNL]
 |p::ps,h=>by simp only[inNLb,Bool.and_eq_true]at h;simp only[inNL];exact⟨inNb_ok p h.1,inNLb_ok ps h.2⟩
theorem inNRb_ok{n:Nat}:(l:List (List PV))→inNRb n l=true→inNR n l
 |[],_=>by simp only[inNR]
 |p::ps,h=>by simp only[inNRb,Bool.and_eq_true]at h;simp only[inNR];exact⟨inNLb_ok p h.1,inNRb_ok ps h.2⟩
end
mutual
def frzP(h':Heap)(n:Nat):Nat→PV→Option PV
 |0,_=>none
 |k+1,p=>match p with
  | .sc v=>some (.sc v)
  | .ptr id i f=>if id<n then some (.ptr id i f)else match h'.obj id with
   |some (.arr _ rows)=>(match rows[i]? with
    |some q=>(frzL h' n k (q.drop f)).map .cptr
    |none=>none)
   |_=>none
  | .own id off len=>if id<n then some (.own id off len)else match h'.obj id with
   |some (.arr z rows)=>if off+len≤rows.length then(frzR h' n k ((rows.drop off).take len)).map (.imm z)else none
   |_=>none
  | .imm z rows=>if inNRb n rows=true then some (.imm z rows)else none
  | .cptr cs=>if inNLb n cs=true then some (.cptr cs)else none
  | .emp=>some .emp
  | .mp id=>if id<n then some (.mp id)else none
  | .agg cs=>(frzL h' n k cs).map .agg
  | .tup cs=>(frzL h' n k cs).map .tup
  | .fn f a b=>if(inNLb n a&&inNLb n b)=true then some (.fn f a b)else none
  | .ab k lo hi m r=>some (.ab k lo hi m r)
def frzL(h':Heap)(n:Nat):Nat→List PV→Option (List PV)
 |0,_=>none
 |_+1,[]=>some []
 |k+1,p::ps=>match frzP h' n k p with
  |some q=>(frzL h' n k ps).map (q::·)
  |none=>none
def frzR(h':Heap)(n:Nat):Nat→List (List PV)→Option (List (List PV))
 |0,_=>none
 |_+1,[]=>some []
 |k+1,p::ps=>match frzL h' n k p with
  |some q=>(frzR h' n k ps).map (q::·)
  |none=>none
end
mutual
theorem frzP_ok{h':Heap}{n:Nat}: ∀ (k:Nat)(p:PV){r:PV},frzP h' n k p=some r→FrzTo n h' r p
 |0,_,_,h=>by simp[frzP]at h
 |k+1,p,r,h=>by
  unfold frzP at h;split at h
  ·simp at h;subst h;simp only[FrzTo]
  ·split at h
   ·rename_i hid;simp at h;subst h;simp only[FrzTo];exact⟨trivial,hid⟩
   ·rename_i id i f hid;split at h
    ·rename_i z rows hob;split at h
     ·rename_i q hq;simp only[Option.map_eq_some_iff]at h;obtain⟨cs,hc,rfl⟩:=h;simp only[FrzTo];exact .inr ⟨id,i,f,z,rows,q,rfl,by omega,hob,hq,frzL_ok k _ hc⟩
     ·simp at h
    ·simp at h
  ·split at h
   ·rename_i hid;simp at h;subst h;simp only[FrzTo];exact⟨trivial,hid⟩
   ·rename_i id off len hid;split at h
    ·rename_i z rows hob;split at h
     ·rename_i hle;simp only[Option.map_eq_some_iff]at h;obtain⟨rs,hc,rfl⟩:=h;simp only[FrzTo];exact .inr (.inr ⟨id,off,len,rows,rfl,by omega,hob,hle,frzR_ok k _ hc⟩)
     ·simp at h
    ·simp at h
  ·split at h
   ·rename_i hi;simp at h;subst h;simp only[FrzTo];exact .inl ⟨trivial,inNRb_ok _ hi⟩
   ·simp at h
  ·split at h
   ·rename_i hi;simp at h;subst h;simp only[FrzTo];exact .inl ⟨trivial,inNLb_ok _ hi⟩
   ·simp at h
  ·simp at h;subst h;simp only[FrzTo]
  ·split at h
   ·rename_i hid;simp at h;subst h;simp only[FrzTo];exact⟨trivial,hid⟩
   ·simp at h
  ·simp only[Option.map_eq_some_iff]at h;obtain⟨cs,hc,rfl⟩:=h;simp only[FrzTo];exact⟨_,rfl,frzL_ok k _ hc⟩
  ·simp only[Option.map_eq_some_iff]at h;obtain⟨cs,hc,rfl⟩:=h;simp only[FrzTo];exact⟨_,rfl,frzL_ok k _ hc⟩
  ·split at h
   ·rename_i hi;simp only[Bool.and_eq_true]at hi;simp at h;subst h;simp only[FrzTo];exact⟨trivial,inNLb_ok _ hi.1,inNLb_ok _ hi.2⟩
   ·simp at h
  ·simp at h;subst h;simp only[FrzTo]
theorem frzL_ok{h':Heap}{n:Nat}: ∀ (k:Nat)(l:List PV){r:List PV},frzL h' n k l=some r→FrzL n h' r l
 |0,_,_,h=>by simp[frzL]at h
 |k+1,[],r,h=>by simp[frzL]at h;subst h;simp only[FrzL]
 |k+1,p::ps,r,h=>by
  unfold frzL at h;split at h
  ·rename_i q hq;simp only[Option.map_eq_some_iff]at h;obtain⟨qs,hc,rfl⟩:=h;simp only[FrzL];exact⟨frzP_ok k p hq,frzL_ok k ps hc⟩
  ·simp at h
theorem frzR_ok{h':Heap}{n:Nat}: ∀ (k:Nat)(l:List (List PV)){r:List (List PV)},frzR h' n k l=some r→FrzR n h' r l
 |0,_,_,h=>by simp[frzR]at h
 |k+1,[],r,h=>by simp[frzR]at h;subst h;simp only[FrzR]
 |k+1,p::ps,r,h=>by
  unfold frzR at h;split at h
  ·rename_i q hq;simp only[Option.map_eq_some_iff]at h;obtain⟨qs,hc,rfl⟩:=h;simp only[FrzR];exact⟨frzL_ok k p hq,frzR_ok k ps hc⟩
  ·simp at h
end
def dropB(q:Option Nat)(n:Nat):Bool:=match q with
 |none=>true
 |some t=>decide (n≤t)
def endS:Option (Exit × Slots × Option Nat × Heap)→Option (Slots × Option Nat × Heap)
 |some (.normal,r)=>some r
 |some (.ret,r)=>some r
 |_=>none
theorem endS_some{x:Option (Exit × Slots × Option Nat × Heap)}{r:Slots × Option Nat × Heap}(h:endS x=some r): ∃ e,(e= .normal∨e= .ret)∧x=some (e,r):=by
 unfold endS at h;split at h
 ·simp at h;subst h;exact⟨_,.inl rfl,rfl⟩
 ·simp at h;subst h;exact⟨_,.inr rfl,rfl⟩
 ·simp at h
abbrev CallR2:=FuncId→List PV→Heap→Option (PV × Option Nat × Heap)
section
variable (P:Program)(wf:FuncId→Bool)(own:FuncId→Nat→Bool)(ext:FuncId→List PV→Heap→Option PV)
def xop2(call:CallR2)(ow:Nat→Bool)(o:Oper)(ρ:Operand→PV)(h:Heap):Option (PV × Option Nat × Heap):=
 match callee ρ o.op with
 |some (f,args)=>call f args h
 |none=>match eff P (o.dst.any ow) o.op ρ h with
  |some (v,h')=>some (v,(if isW ow wf o=true then some (tchO o.op ρ h)else none),h')
  |none=>none
def xagain2(call:CallR2)(ow:Nat→Bool)(o:Oper)(ρ:Operand→PV)(h:Heap)(v:PV):Bool:=
 match xop2 P wf call ow o ρ h with
 |some (v',q,_)=>q.isNone&&pvEq v' v
 |none=>false
def xl2(call:CallR2)(ow:Nat→Bool)(n:Nat)(ops:List Oper):List Oper→Slots→Option Nat→Heap→Option (Slots × Option Nat × Heap)
 |[],s,q,h=>some (s,q,h)
 | o :: rest, s, q, h => if o.dst.all (fun d => decide (d < n)) = true then
   match wantedB ops s o with
   |none=>none
   |some false=>xl2 call ow n ops rest (updO s o.dst (.sc undef)) q h
   |some true=>match xop2 P wf call ow o (pev s) h with
    |some (v,q',h')=>xl2 call ow n ops rest (updO s o.dst v) (mnO q q') h'
    |none=>none
  else none
def xopR(call:CallR2)(ow:Nat→Bool)(id:Nat)(o:Oper)(ρ:Operand→PV)(h:Heap):Option (PV × Option Nat × Heap):=
 match o.op with
 | .alloc t=>match zeroT P t with
  |some zs=>if 0<zs.length then some (.ptr id 0 0,some id,h.set id (.arr zs.length [zs.map .sc]))else none
  |none=>none
 |_=>xop2 P wf call ow o ρ h
def xd2(call:CallR2)(ow:Nat→Bool)(n:Nat)(ops:List Oper):Nat→List Oper→List (Nat × Oper × Slots × PV)→List (Nat × Heap)→Slots→Option Nat→Heap→Option (Slots × Option Nat × Heap)
 |_,[],_,_,s,q,h=>some (s,q,h)
 | k, o :: rest, past, hist, s, q, h => if o.dst.all (fun d => decide (d < n)) = true then
   match wantedB ops s o with
   |none=>none
   |some false=>xd2 call ow n ops (k+1) rest past hist (updO s o.dst (.sc undef)) q h
   |some true=>match xop2 P wf call ow o (pev s) h with
    |none=>none
    |some (v,q',h')=>
     if isW ow wf o=true then
      (if past.all (fun x=>pre ops x.1 k||xagain2 P wf call ow x.2.1 (pev x.2.2.1) h' x.2.2.2)=true then xd2 call ow n ops (k+1) rest past ((k,h)::hist) (updO s o.dst v) (mnO q q') h' else none)
     else if q'.isNone=true then
      (if hist.all (fun x=>pre ops x.1 k||xagain2 P wf call ow o (pev s) x.2 v)=true then xd2 call ow n ops (k+1) rest ((k,o,s,v)::past) hist (updO s o.dst v) q h else none)
     else none
  else none
def xd3(call:CallR2)(ow:Nat→Bool)(n:Nat)(ops:List Oper)(base:Nat):Nat→List Oper→List (Nat × Oper × Slots × PV)→List (Nat × Heap)→Slots→Option Nat→Heap→Option (Slots × Option Nat × Heap)
 |_,[],_,_,s,q,h=>some (s,q,h)
 | k, o :: rest, past, hist, s, q, h => if o.dst.all (fun d => decide (d < n)) = true then
   match wantedB ops s o with
   |none=>none
   |some false=>xd3 call ow n ops base (k+1) rest past hist (updO s o.dst (.sc undef)) q h
   |some true=>match xopR P wf call ow (base+k) o (pev s) h with
    |none=>none
    |some (v,q',h')=>
     if isW ow wf o=true then
      (if(past.all (fun x=>pre ops x.1 k||xagain2 P wf call ow x.2.1 (pev x.2.2.1) h' x.2.2.2)&&((List.range ops.length).all fun f=>!(decide (k<f)&&alB ops f)||(h'.obj (base+f)).isNone))=true then xd3 call ow n ops base (k+1) rest past ((k,h)::hist) (updO s o.dst v) (mnO q q') h' else none)
     else if q'.isNone=true then
      (if hist.all (fun x=>pre ops x.1 k||xagain2 P wf call ow o (pev s) x.2 v)=true then xd3 call ow n ops base (k+1) rest ((k,o,s,v)::past) hist (updO s o.dst v) q h else none)
     else none
  else none
structure Rc where
 s:Slots
 h:Heap
 v:PV
 l:Option (Nat × AObj)
 b:Bool
def unoB(ops:List Oper)(x f:Nat):Bool:=!(x==f)&&!(pre ops x f)&&!(pre ops f x)
def laterA(ow:Nat→Bool)(ops:List Oper)(k:Nat):List Nat:=(List.range ops.length).filter fun f=>decide (k<f)&&(ops[f]?).any (isA ow)
def killsAt(ow:Nat→Bool)(ops:List Oper)(base k:Nat)(ls:List (Nat × Nat)):List Nat:=(ls.filterMap fun p=>if unoB ops k p.1=true then some p.2 else none)++(laterA ow ops k).map (base+·)
def x4(call:CallR2)(ow:Nat→Bool)(ops:List Oper)(base k:Nat)(ls:List (Nat × Nat))(o:Oper)(s:Slots)(h:Heap):Option (PV × Option Nat × Heap × Option (Nat × AObj)× Bool):=
 if isW ow wf o=true then
  (if isA ow o = true then (match aop P ow (base + k) o (pev s) with
   |some (v,ob)=>some (v,some (base+k),h.set (base+k) ob,some (base+k,ob),false)
   |none=>none)
  else match o.op with
   | .store t x y=>(match pev s x with
    | .ptr id _ _=>(match eff P (o.dst.any ow) (.store t x y) (pev s) h with
     |some (v,h')=>(match h'.obj id with
      |some ob=>some (v,some id,h.set id ob,some (id,ob),false)
      |none=>none)
     |none=>none)
    |_=>none)
   |_=>(match xop2 P wf call ow o (pev s) (killL h (killsAt ow ops base k ls))with
    |some (v,q,h')=>if((killsAt ow ops base k ls).all (fun id=>(h'.obj id).isNone)&&(laterA ow ops k).all (fun f=>(h.obj (base+f)).isNone))=true then some (v,q,putL h' h (killsAt ow ops base k ls),none,true)else none
    |none=>none))
 else match xop2 P wf call ow o (pev s) (killL h (killsAt ow ops base k ls))with
  |some (v,q,_)=>if q.isNone=true then some (v,none,h,none,false)else none
  |none=>none
def addL(k:Nat)(l:Option (Nat × AObj))(ls:List (Nat × Nat)):List (Nat × Nat):=match l with
 |some p=>(k,p.1)::ls
 |none=>ls
def xr4(call:CallR2)(ow:Nat→Bool)(n:Nat)(ops:List Oper)(base:Nat):Nat→List Oper→List (Nat × Nat)→Slots→Option Nat→Heap→Option (List Rc × Slots × Option Nat × Heap)
 |_,[],_,s,q,h=>some ([],s,q,h)
 | k, o :: rest, ls, s, q, h => if o.dst.all (fun d => decide (d < n)) = true then
   match wantedB ops s o with
   |none=>none
   |some false=>(xr4 call ow n ops base (k+1) rest ls (updO s o.dst (.sc undef)) q h).map fun r=>(⟨s,h,.emp,none,false⟩::r.1,r.2)
   |some true=>match x4 P wf call ow ops base k ls o s h with
    |none=>none
    |some (v,q',h',l,b)=>(xr4 call ow n ops base (k+1) rest (addL k l ls) (updO s o.dst v) (mnO q q') h').map fun r=>(⟨s,h,v,l,b⟩::r.1,r.2)
  else none
def gS(rs:List Rc)(sf:Slots)(j:Nat):Slots:=match rs[j]? with|some r=>r.s|none=>sf
def gH(rs:List Rc)(hf:Heap)(j:Nat):Heap:=match rs[j]? with|some r=>r.h|none=>hf
def gV(rs:List Rc)(j:Nat):PV:=match rs[j]? with|some r=>r.v|none=> .emp
def gL(rs:List Rc)(j:Nat):Option (Nat × AObj):=match rs[j]? with|some r=>r.l|none=>none
def gB(rs:List Rc)(j:Nat):Bool:=match rs[j]? with|some r=>r.b|none=>false
def rng(n:Nat)(p:Nat→Bool):Bool:=(List.range n).all p
def wwB(ow:Nat→Bool)(ops:List Oper)(lt:Nat→Option (Nat × AObj))(br:Nat→Bool):Bool:=
 rng ops.length fun j=>!(br j||(lt j).isSome)||rng j fun i=>!(br i||(lt i).isSome)||pre ops i j||(match lt i,lt j with|some p,some q=>!(p.1==q.1)|_,_=>false)||(br i&&(lt j).isSome&&(ops[j]?).any (isA ow))||((lt i).isSome&&br j&&(ops[i]?).any (isA ow))
def lateB(ow:Nat→Bool)(ops:List Oper)(base:Nat)(hk:Nat→Heap)(lt:Nat→Option (Nat × AObj))(br:Nat→Bool):Bool:=
 rng ops.length fun j=>(!(br j||(lt j).isSome))||rng ops.length fun f=>!(decide (j<f)&&(ops[f]?).any (isA ow))||(if br j=true then((hk (j+1)).obj (base+f)).isNone else match lt j with|some p=>!(base+f==p.1)|none=>true)
def isSt(o:Oper):Bool:=match o.op with
 | .store _ _ _=>true
 |_=>false
def lastBr(br:Nat→Bool)(k:Nat):Nat:=lastOf br k
def cutB(ops:List Oper)(br:Nat→Bool)(x M:Nat):Bool:=(M==0||br (M-1))&&rng ops.length fun b=>!(br b)||(if b<M then !(pre ops x b)else !(pre ops b x))
def noSt(ops:List Oper)(k:Nat):Bool:=rng ops.length fun f=>!(decide (k<f)&&(ops[f]?).any isSt&&unoB ops k f)
def quietB(call:CallR2)(ow:Nat→Bool)(ops:List Oper)(sk:Nat→Slots)(hk:Nat→Heap)(vk:Nat→PV)(lt:Nat→Option (Nat × AObj))(br:Nat→Bool):Bool:=
 rng ops.length fun k=>match ops[k]? with
  |none=>true
  |some o=>isW ow wf o||(match wantedB ops (sk k) o with
   |some true=>rng (ops.length+1) fun M=>!(cutB ops br k M)||((M==lastBr br k)&&noSt ops k)||xagain2 P wf call ow o (pev (sk k)) (gx ops lt hk k M (kx ow ops lt k)) (vk k)
   |_=>true)
def xd4(call:CallR2)(ow:Nat→Bool)(n:Nat)(ops:List Oper)(base:Nat)(s:Slots)(q:Option Nat)(h:Heap):Option (Slots × Option Nat × Heap):=
 match xr4 P wf call ow n ops base 0 ops [] s q h with
 |none=>none
 |some (rs,sf,qf,hf)=>if(wwB ow ops (gL rs) (gB rs)&&lateB ow ops base (gH rs hf) (gL rs) (gB rs)&&quietB P wf call ow ops (gS rs sf) (gH rs hf) (gV rs) (gL rs) (gB rs))=true then some (sf,qf,hf)else none
def xc2(call:CallR2)(ow:Nat→Bool)(n:Nat):Nat→Code→Slots→Option Nat→Heap→Option (Exit × Slots × Option Nat × Heap)
 |0,_,_,_,_=>none
 |k+1,c,s,q,h=>match c with
  | .skip=>some (.normal,s,q,h)
  | .region _ ops true => if dOk ow wf ops.toList = true then (xd2 P wf call ow n ops.toList 0 ops.toList [] [] s q h).map (Exit.normal, ·)
    else if dOk2 ow wf ops.toList=true then(xd3 P wf call ow n ops.toList h.next 0 ops.toList [] [] s (mnO q (some h.next)) ⟨h.next+ops.toList.length,h.obj⟩).map (Exit.normal,·)
    else if dOk3 ops.toList=true then(xd4 P wf call ow n ops.toList h.next s (mnO q (some h.next)) ⟨h.next+ops.toList.length,h.obj⟩).map (Exit.normal,·)else none
  | .region _ ops false=>(xl2 P wf call ow n ops.toList ops.toList s q h).map (Exit.normal,·)
  | .seq a b=>match xc2 call ow n k a s q h with
   |some (.normal,s',q',h')=>xc2 call ow n k b s' q' h'
   |r=>r
  | .cond c x y=>match pev s c with
   | .sc (.bool true)=>xc2 call ow n k x s q h
   | .sc (.bool false)=>xc2 call ow n k y s q h
   |_=>none
  | .block id c=>match xc2 call ow n k c s q h with
   |some (.exit id',s',q',h')=>some (if id'=id then .normal else .exit id',s',q',h')
   |r=>r
  | .loop c=>match xc2 call ow n k c s q h with
   |some (.normal,s',q',h')=>xc2 call ow n k (.loop c) s' q' h'
   |r=>r
  | .exit id=>some (.exit id,s,q,h)
  | .ret=>some (.ret,s,q,h)
  |_=>none
def xf2(keep:FuncId→Bool)(m:Nat):Nat→CallR2
  |0,_,_,_=>none
  |k+1,f,args,h=>match ext f args h with
   |some r=>some (r,none,h)
   |none=>match P.funcs[f]? with
    |none=>none
    |some fn=>if hasBody P f=true∧args.length≤fn.ntmps then match fn.body with
        |none=>none
        |some c=>match endS (xc2 P wf (xf2 keep m k) (own f) fn.ntmps m c (slots0 args) none h)with
          |some (s,q,h')=>match resAll P s h' fn.results.toList with
            |none=>none
            |some vs=>if(!(keep f)&&dropB q h.next)=true then(match frzP h' h.next 1000 (resV vs)with
                |some r=>some (r,none,h)
                |none=>some (resV vs,q,h'))else some (resV vs,q,h')
          |none=>none
      else none
end
section
variable {P:Program}{wf:FuncId→Bool}{own:FuncId→Nat→Bool}
def ExtOk2(P:Program)(ext:FuncId→List PV→Heap→Option PV):Prop:= ∀ f args r h,ext f args h=some r→PCall P f args h (fun r' h'=>r'=r∧h'=h)
def CallOk2(P:Program)(call:CallR2):Prop:= ∀ f args h v q h',call f args h=some (v,q,h')→PCall P f args h (fun r h''=>r=v∧h''=h')∧Tch q h h'
theorem xop_ok2{call:CallR2}(hk:CallOk2 P call){ow:Nat→Bool}{o:Oper}{ρ:Operand→PV}{h h':Heap}{v:PV}{q:Option Nat}(hx:xop2 P wf call ow o ρ h=some (v,q,h')):Does P ow o ρ h v h'∧Tch q h h':=by
 unfold xop2 at hx;unfold Does;split at hx
 ·rename_i f args hc;rw[hc];exact hk _ _ _ _ _ _ hx
 ·rename_i hc;rw[hc];split at hx
  ·rename_i v1 h1 he;simp only[Option.some.injEq,Prod.mk.injEq]at hx;obtain⟨rfl,rfl,rfl⟩:=hx;refine⟨he,?_⟩;split
   ·exact eff_tch he
   ·rename_i hw;exact eff_same (by simpa using hw) hc he
  ·simp at hx
theorem xagain_ok2{call:CallR2}(hk:CallOk2 P call){ow:Nat→Bool}{o:Oper}{ρ:Operand→PV}{h:Heap}{v:PV}(hx:xagain2 P wf call ow o ρ h v=true):Does P ow o ρ h v h:=by
 unfold xagain2 at hx;split at hx
 ·rename_i v' q h' hp;simp only[Bool.and_eq_true,Option.isNone_iff_eq_none]at hx;obtain⟨rfl,hx⟩:=hx;obtain⟨h1,h2⟩:=xop_ok2 hk hp;simp only[Tch]at h2;rw[h2,pvEq_eq _ _ hx]at h1;exact h1
 ·simp at hx
theorem xl_ok2{call:CallR2}(hk:CallOk2 P call){ow:Nat→Bool}{n:Nat}{ops:List Oper}{K:Slots→Heap→Prop}: ∀ (l:List Oper){s s':Slots}{q q':Option Nat}{h h':Heap},xl2 P wf call ow n ops l s q h=some (s',q',h')→
  (K s' h'→lwp P ow n ops l K s h)∧(∀ h0,Tch q h0 h→Tch q' h0 h')
 |[],s,s',q,q',h,h',hx=>by
  simp only[xl2,Option.some.injEq,Prod.mk.injEq]at hx;obtain⟨rfl,rfl,rfl⟩:=hx;exact⟨fun hK=>hK,fun h0 hq=>hq⟩
 |o::rest,s,s',q,q',h,h',hx=>by
  unfold xl2 at hx;split at hx
  ·rename_i hd;unfold lwp;split at hx
   ·simp at hx
   ·rename_i hw;obtain⟨h1,h2⟩:=xl_ok2 (K:=K) hk rest hx;rw[hw];exact⟨fun hK=>⟨hd,by simpa using h1 hK⟩,h2⟩
   ·rename_i hw;split at hx
    ·rename_i v q1 h1 hp;obtain⟨d1,d2⟩:=xop_ok2 hk hp;obtain⟨g1,g2⟩:=xl_ok2 (K:=K) hk rest hx;rw[hw];exact⟨fun hK=>⟨hd,by simpa using d1.owp (g1 hK)⟩,fun h0 hq=>g2 h0 (hq.trans d2)⟩
    ·simp at hx
  ·simp at hx
theorem xd_ok2{call:CallR2}(hk:CallOk2 P call){ow:Nat→Bool}{n:Nat}{ops:List Oper}{K:Slots→Heap→Prop}: ∀ (l:List Oper)(k:Nat){past:List (Nat × Oper × Slots × PV)}{hist:List (Nat × Heap)}{s s':Slots}{q q':Option Nat}{h h':Heap},xd2 P wf call ow n ops k l past hist s q h=some (s',q',h')→
  (K s' h'→drun P ow wf n ops k l (past.map fun x=>(x.1,fun h2=>Does P ow x.2.1 (pev x.2.2.1) h2 x.2.2.2 h2)) hist K s h)∧(∀ h0,Tch q h0 h→Tch q' h0 h')
 |[],k,past,hist,s,s',q,q',h,h',hx=>by
  simp only[xd2,Option.some.injEq,Prod.mk.injEq]at hx;obtain⟨rfl,rfl,rfl⟩:=hx;exact⟨fun hK=>hK,fun h0 hq=>hq⟩
 |o::rest,k,past,hist,s,s',q,q',h,h',hx=>by
  unfold xd2 at hx;split at hx
  ·rename_i hd;unfold drun;split at hx
   ·simp at hx
   ·rename_i hw;obtain⟨h1,h2⟩:=xd_ok2 (K:=K) hk rest (k+1) hx;rw[hw];exact⟨fun hK=>⟨hd,by simpa using h1 hK⟩,h2⟩
   ·rename_i hw;split at hx
    ·simp at hx
    ·rename_i v q1 h1 hp;obtain⟨d1,d2⟩:=xop_ok2 hk hp;rw[hw];split at hx
     ·rename_i hiw;split at hx
      ·rename_i hpast;obtain⟨g1,g2⟩:=xd_ok2 (K:=K) hk rest (k+1) hx;refine⟨fun hK=>⟨hd,?_⟩,fun h0 hq=>g2 h0 (hq.trans d2)⟩
       ·simp only[hiw,if_true];refine⟨v,h1,d1,?_,g1 hK⟩;intro x hx1;obtain⟨y,hy,rfl⟩:=List.mem_map.1 hx1;have:=List.all_eq_true.1 hpast y hy;simp only[Bool.or_eq_true]at this;exact this.imp id (fun t=>xagain_ok2 hk t)
      ·simp at hx
     ·rename_i hiw;split at hx
      ·rename_i hq1;split at hx
       ·rename_i hhist;obtain⟨g1,g2⟩:=xd_ok2 (K:=K) hk rest (k+1) hx;refine⟨fun hK=>⟨hd,?_⟩,g2⟩;simp only[hiw,if_true,Bool.false_eq_true,if_false];have e1:h1=h:=(by rw[Option.isNone_iff_eq_none]at hq1;subst hq1;exact d2);subst e1;refine⟨v,d1,?_,g1 hK⟩;intro x hx1;have:=List.all_eq_true.1 hhist x hx1;simp only[Bool.or_eq_true]at this;exact this.imp id (fun t=>xagain_ok2 hk t)
       ·simp at hx
      ·simp at hx
  ·simp at hx
theorem xopR_ok{call:CallR2}(hk:CallOk2 P call){ow:Nat→Bool}{id:Nat}{o:Oper}{ρ:Operand→PV}{h h':Heap}{v:PV}{q:Option Nat}(hx:xopR P wf call ow id o ρ h=some (v,q,h')):DoesR P ow id o ρ h v h'∧Tch q h h':=by
 unfold xopR at hx;unfold DoesR;split at hx
 ·rename_i t hop;simp only[hop];split at hx
  ·rename_i zs hz;split at hx
   ·rename_i hpos;simp only[Option.some.injEq,Prod.mk.injEq]at hx;obtain⟨rfl,rfl,rfl⟩:=hx;exact⟨⟨zs,hz,hpos,rfl,rfl⟩,tch_set⟩
   ·simp at hx
  ·simp at hx
 ·rename_i hop;obtain⟨d1,d2⟩:=xop_ok2 hk hx;refine⟨?_,d2⟩;split
  ·rename_i t he;exact(hop t he).elim
  ·exact d1
theorem xd_ok3{call:CallR2}(hk:CallOk2 P call){ow:Nat→Bool}{n base:Nat}{ops:List Oper}{K:Slots→Heap→Prop}: ∀ (l:List Oper)(k:Nat){past:List (Nat × Oper × Slots × PV)}{hist:List (Nat × Heap)}{s s':Slots}{q q':Option Nat}{h h':Heap},xd3 P wf call ow n ops base k l past hist s q h=some (s',q',h')→
  (K s' h'→drun2 P ow wf n ops base k l (past.map fun x=>(x.1,fun h2=>Does P ow x.2.1 (pev x.2.2.1) h2 x.2.2.2 h2)) hist K s h)∧(∀ h0,Tch q h0 h→Tch q' h0 h')
 |[],k,past,hist,s,s',q,q',h,h',hx=>by
  simp only[xd3,Option.some.injEq,Prod.mk.injEq]at hx;obtain⟨rfl,rfl,rfl⟩:=hx;exact⟨fun hK=>hK,fun h0 hq=>hq⟩
 |o::rest,k,past,hist,s,s',q,q',h,h',hx=>by
  unfold xd3 at hx;split at hx
  ·rename_i hd;unfold drun2;split at hx
   ·simp at hx
   ·rename_i hw;obtain⟨h1,h2⟩:=xd_ok3 (K:=K) hk rest (k+1) hx;rw[hw];exact⟨fun hK=>⟨hd,by simpa using h1 hK⟩,h2⟩
   ·rename_i hw;split at hx
    ·simp at hx
    ·rename_i v q1 h1 hp;obtain⟨d1,d2⟩:=xopR_ok hk hp;rw[hw];split at hx
     ·rename_i hiw;split at hx
      ·rename_i hpn;simp only[Bool.and_eq_true]at hpn;obtain⟨hpast,hnone⟩:=hpn;obtain⟨g1,g2⟩:=xd_ok3 (K:=K) hk rest (k+1) hx;refine⟨fun hK=>⟨hd,?_⟩,fun h0 hq=>g2 h0 (hq.trans d2)⟩
       ·simp only[hiw,if_true];refine⟨v,h1,d1,fun f hf ha=>?_,?_,g1 hK⟩
        ·have hfl:f<ops.length:=by
          unfold alB at ha;split at ha
          ·rename_i hq;exact(List.getElem?_eq_some_iff.1 hq).1
          ·simp at ha
         have:=List.all_eq_true.1 hnone f (List.mem_range.2 hfl);simpa[hf,ha]using this
        intro x hx1;obtain⟨y,hy,rfl⟩:=List.mem_map.1 hx1;have:=List.all_eq_true.1 hpast y hy;simp only[Bool.or_eq_true]at this;exact this.imp id (fun t=>xagain_ok2 hk t)
      ·simp at hx
     ·rename_i hiw;split at hx
      ·rename_i hq1;split at hx
       ·rename_i hhist;obtain⟨g1,g2⟩:=xd_ok3 (K:=K) hk rest (k+1) hx;refine⟨fun hK=>⟨hd,?_⟩,g2⟩;simp only[hiw,if_true,Bool.false_eq_true,if_false];have e1:h1=h:=(by rw[Option.isNone_iff_eq_none]at hq1;subst hq1;exact d2);subst e1;refine⟨v,(doesR_of (by simpa using hiw)).1 d1,?_,g1 hK⟩;intro x hx1;have:=List.all_eq_true.1 hhist x hx1;simp only[Bool.or_eq_true]at this;exact this.imp id (fun t=>xagain_ok2 hk t)
       ·simp at hx
      ·simp at hx
  ·simp at hx
theorem rng_iff{n:Nat}{p:Nat→Bool}:rng n p=true↔ ∀ i,i<n→p i=true:=by simp[rng]
structure S4(P:Program)(ow:Nat→Bool)(wf:FuncId→Bool)(n:Nat)(ops:List Oper)(base:Nat)(k:Nat)(o:Oper)(s s':Slots)(h h':Heap)(v:PV)(l:Option (Nat × AObj))(b:Bool)(ls:List (Nat × Nat)):Prop where
 dst:o.dst.all (fun d=>decide (d<n))=true
 ok: ∃ w,wantedB ops s o=some w∧(w=false→s'=updO s o.dst (.sc undef)∧h'=h∧l=none∧b=false)∧
  (w = true → s' = updO s o.dst v ∧
   (isW ow wf o=false→h'=h∧l=none∧b=false∧Does P ow o (pev s) (killL h (killsAt ow ops base k ls)) v (killL h (killsAt ow ops base k ls)))∧
   (isW ow wf o = true →
    (b=true∧l=none∧ ∃ H',Does P ow o (pev s) (killL h (killsAt ow ops base k ls)) v H'∧(∀ id∈killsAt ow ops base k ls,H'.obj id=none)∧h'=putL H' h (killsAt ow ops base k ls)∧ ∀ f∈laterA ow ops k,h.obj (base+f)=none)∨
    (b=false∧isA ow o=true∧ ∃ ob,l=some (base+k,ob)∧aop P ow (base+k) o (pev s)=some (v,ob)∧h'=h.set (base+k) ob)∨
    (b=false∧ ∃ t x y id r f ob,o.op= .store t x y∧pev s x= .ptr id r f∧l=some (id,ob)∧h'=h.set id ob∧eff P (o.dst.any ow) o.op (pev s) h=some (v,h'))))
theorem store_set{t:TypeId}{x y:Operand}{b:Bool}{ρ:Operand→PV}{H H':Heap}{id r f:Nat}{ob:AObj}{v:PV}(hx:ρ x= .ptr id r f)(he:eff P b (.store t x y) ρ H=some (v,H'))(ho:H'.obj id=some ob):H'=H.set id ob:=by
 simp only[eff,Option.bind_eq_some_iff]at he;obtain⟨m,_,he⟩:=he;split at he
 ·simp only[Option.map_eq_some_iff,Prod.mk.injEq,hx,wr]at he;obtain⟨h2,hw,_,rfl⟩:=he;split at hw
  ·split at hw
   ·split at hw
    ·simp at hw;subst hw;simp[Heap.set]at ho;rw[ho]
    ·simp at hw
   ·simp at hw
  ·simp at hw
 ·simp at he
theorem tch_put{q:Option Nat}{h H':Heap}{l:List Nat}(hn: ∀ id∈l,H'.obj id=none)(ht:Tch q (killL h l) H'):Tch q h (putL H' h l):=by
 cases q with
 |none=>
  simp only[Tch]at ht⊢;subst ht;exact putL_killL
 |some m=>
  simp only[Tch]at ht⊢;refine⟨ht.1,fun id hid=>?_⟩;have h2:=ht.2 id hid;simp only[killL]at h2;simp only[putL];by_cases hc:id∈l
  ·have hc':l.contains id=true:=(by simpa using hc);cases ho:h.obj id with
   |none=>simp[hn id hc]
   |some o=>simp[hc]
  ·have hc':l.contains id=false:=(by simpa using hc);rw[if_neg (by simp[hc])];rw[hc']at h2;simpa using h2
theorem x4_ok{call:CallR2}(hk:CallOk2 P call){ow:Nat→Bool}{n:Nat}{ops:List Oper}{base k:Nat}{ls:List (Nat × Nat)}{o:Oper}{s:Slots}{h h':Heap}{v:PV}{q:Option Nat}{l:Option (Nat × AObj)}{b:Bool}(hd:o.dst.all (fun d=>decide (d<n))=true)(hw:wantedB ops s o=some true)(hx:x4 P wf call ow ops base k ls o s h=some (v,q,h',l,b)):
  S4 P ow wf n ops base k o s (updO s o.dst v) h h' v l b ls∧Tch q h h':=by
 unfold x4 at hx;split at hx
 ·rename_i hiw;split at hx
  ·rename_i hA;split at hx
   ·rename_i v1 ob ha;simp only[Option.some.injEq,Prod.mk.injEq]at hx;obtain⟨rfl,rfl,rfl,rfl,rfl⟩:=hx;exact⟨⟨hd,true,hw,(fun hc=>by cases hc),fun _=>⟨rfl,(fun hc=>by rw[hiw]at hc;cases hc),fun _=> .inr (.inl ⟨rfl,hA,ob,rfl,ha,rfl⟩)⟩⟩,tch_set⟩
   ·simp at hx
  ·split at hx
   ·rename_i t x y hop;split at hx
    ·rename_i id r f hp;split at hx
     ·rename_i v1 h1 he;split at hx
      ·rename_i ob hob;simp only[Option.some.injEq,Prod.mk.injEq]at hx;obtain⟨rfl,rfl,rfl,rfl,rfl⟩:=hx;have hs:=store_set hp he hob;refine⟨⟨hd,true,hw,(fun hc=>by cases hc),fun _=>⟨rfl,(fun hc=>by rw[hiw]at hc;cases hc),fun _=> .inr (.inr ⟨rfl,t,x,y,id,r,f,ob,hop,hp,rfl,rfl,?_⟩)⟩⟩,tch_set⟩;rw[hop,he,hs]
      ·simp at hx
     ·simp at hx
    ·simp at hx
   ·split at hx
    ·rename_i v1 q1 h1 hp;split at hx
     ·rename_i hno;simp only[Bool.and_eq_true,List.all_eq_true,Option.isNone_iff_eq_none]at hno;simp only[Option.some.injEq,Prod.mk.injEq]at hx;obtain⟨rfl,rfl,rfl,rfl,rfl⟩:=hx;obtain⟨d1,d2⟩:=xop_ok2 hk hp;exact⟨⟨hd,true,hw,(fun hc=>by cases hc),fun _=>⟨rfl,(fun hc=>by rw[hiw]at hc;cases hc),fun _=> .inl ⟨rfl,rfl,h1,d1,hno.1,rfl,hno.2⟩⟩⟩,tch_put hno.1 d2⟩
     ·simp at hx
    ·simp at hx
 ·rename_i hiw;split at hx
  ·rename_i v1 q1 h1 hp;split at hx
   ·rename_i hq;simp only[Option.some.injEq,Prod.mk.injEq]at hx;obtain⟨rfl,rfl,rfl,rfl,rfl⟩:=hx;obtain⟨d1,d2⟩:=xop_ok2 hk hp;rw[Option.isNone_iff_eq_none]at hq;subst hq;simp only[Tch]at d2;subst d2;exact⟨⟨hd,true,hw,(fun hc=>by cases hc),fun _=>⟨rfl,fun _=>⟨rfl,rfl,rfl,d1⟩,fun hc=>by rw[hc]at hiw;simp at hiw⟩⟩,rfl⟩
   ·simp at hx
  ·simp at hx
def lsAt(rs:List Rc):Nat→List (Nat × Nat)→Nat→List (Nat × Nat)
 |_,ls,0=>ls
 |k,ls,i+1=>match rs with
  |r::rs=>lsAt rs (k+1) (addL k r.l ls) i
  |[]=>ls
theorem lsAt_mem: ∀ (rs:List Rc)(k:Nat)(ls:List (Nat × Nat))(i f:Nat)(q:Nat × AObj),i≤rs.length→f<i→gL rs f=some q→(k+f,q.1)∈lsAt rs k ls i:=by
 have keep: ∀ (rs:List Rc)(k:Nat)(ls:List (Nat × Nat))(i:Nat)(x:Nat × Nat),x∈ls→x∈lsAt rs k ls i:=by
  intro rs
  induction rs with
  |nil=>intro k ls i x hx;cases i<;>simpa only[lsAt]using hx
  |cons r rs ih=>
   intro k ls i x hx;cases i with
   |zero=>simpa only[lsAt]using hx
   |succ i=>
    simp only[lsAt];refine ih _ _ _ _ ?_;unfold addL;split
    ·simp [hx]
    ·exact hx
 intro rs
 induction rs with
 |nil=>intro k ls i f q h1 h2 _;simp at h1;omega
 |cons r rs ih=>
  intro k ls i f q h1 h2 h3;cases i with
  |zero=>omega
  |succ i=>
   simp only[lsAt];cases f with
   |zero=>
    refine keep _ _ _ _ _ ?_;simp only[gL,List.getElem?_cons_zero]at h3;unfold addL;rw[h3];simp
   |succ f=>
    have:=ih (k+1) (addL k r.l ls) i f q (by simp at h1;omega) (by omega) (by simpa only[gL,List.getElem?_cons_succ]using h3);rw[show k+(f+1)=k+1+f by omega];exact this
theorem lsAt_inv: ∀ (rs:List Rc)(k:Nat)(ls:List (Nat × Nat))(i:Nat)(x:Nat × Nat),x∈lsAt rs k ls i→x∈ls∨ ∃ f q,f<i∧gL rs f=some q∧x=(k+f,q.1)
 |rs,k,ls,0,x,h=>by
  unfold lsAt at h;exact .inl h
 |[],k,ls,i+1,x,h=>by
  simp only[lsAt]at h;exact .inl h
 |r::rs,k,ls,i+1,x,h=>by
  simp only[lsAt]at h;rcases lsAt_inv rs (k+1) _ i x h with h1|⟨f,q,h1,h2,h3⟩
  ·unfold addL at h1;cases hl:r.l with
   |none=>rw[hl]at h1;exact .inl h1
   |some p=>
    rw[hl]at h1;simp only[List.mem_cons]at h1;rcases h1 with h1|h1
    ·exact .inr ⟨0,p,by omega,by simp only[gL,List.getElem?_cons_zero];exact hl,h1⟩
    ·exact .inl h1
  ·exact .inr ⟨f+1,q,by omega,by simpa only[gL,List.getElem?_cons_succ]using h2,by rw[h3];congr 1;omega⟩
theorem xr4_ok{call:CallR2}(hk:CallOk2 P call){ow:Nat→Bool}{n:Nat}{ops:List Oper}{base:Nat}: ∀ (l:List Oper)(k:Nat){ls:List (Nat × Nat)}{s sf:Slots}{q qf:Option Nat}{h hf:Heap}{rs:List Rc},xr4 P wf call ow n ops base k l ls s q h=some (rs,sf,qf,hf)→
  rs.length=l.length∧gS rs sf 0=s∧gH rs hf 0=h∧(∀ h0,Tch q h0 h→Tch qf h0 hf)∧
   ∀ i o,l[i]? =some o→S4 P ow wf n ops base (k+i) o (gS rs sf i) (gS rs sf (i+1)) (gH rs hf i) (gH rs hf (i+1)) (gV rs i) (gL rs i) (gB rs i) (lsAt rs k ls i)
 |[],k,ls,s,sf,q,qf,h,hf,rs,hx=>by
  simp only[xr4,Option.some.injEq,Prod.mk.injEq]at hx;obtain⟨rfl,rfl,rfl,rfl⟩:=hx;exact⟨rfl,rfl,rfl,fun _ hq=>hq,fun i o ho=>by simp at ho⟩
 |o::rest,k,ls,s,sf,q,qf,h,hf,rs,hx=>by
  unfold xr4 at hx;split at hx
  case isFalse=>simp at hx
  rename_i hd;have fin: ∀ (v:PV)(q':Option Nat)(h':Heap)(l:Option (Nat × AObj))(b:Bool)(s':Slots)(rs':List Rc),rs=⟨s,h,v,l,b⟩::rs'→xr4 P wf call ow n ops base (k+1) rest (addL k l ls) s' (mnO q q') h'=some (rs',sf,qf,hf)→S4 P ow wf n ops base k o s s' h h' v l b ls→Tch q' h h'→
    rs.length=(o::rest).length∧gS rs sf 0=s∧gH rs hf 0=h∧(∀ h0,Tch q h0 h→Tch qf h0 hf)∧
     ∀ i o',(o::rest)[i]? =some o'→S4 P ow wf n ops base (k+i) o' (gS rs sf i) (gS rs sf (i+1)) (gH rs hf i) (gH rs hf (i+1)) (gV rs i) (gL rs i) (gB rs i) (lsAt rs k ls i):=by
   intro v q' h' l b s' rs' hrs hrec hS ht;obtain⟨g1,g2,g3,g4,g5⟩:=xr4_ok hk rest (k+1) hrec;subst hrs;refine⟨by simp[g1],rfl,rfl,fun h0 hq=>g4 h0 (hq.trans ht),fun i o' ho'=>?_⟩;cases i with
   |zero=>
    simp at ho';subst ho';have e1:gS (⟨s,h,v,l,b⟩::rs') sf (0+1)=s':=g2;have e2:gH (⟨s,h,v,l,b⟩::rs') hf (0+1)=h':=g3;rw[e1,e2];exact hS
   |succ i=>
    have:=g5 i o' (by simpa using ho');rw[show k+(i+1)=k+1+i by omega];exact this
  split at hx
  ·simp at hx
  ·rename_i hw;simp only[Option.map_eq_some_iff]at hx;obtain⟨⟨rs',sf',qf',hf'⟩,hrec,he⟩:=hx;simp only[Prod.mk.injEq]at he;obtain⟨h1,rfl,rfl,rfl⟩:=he;refine fin .emp none h none false _ rs' h1.symm (by
    have:mnO q none=q:=(by cases q<;>rfl);rw[this];exact hrec) ⟨hd,false,hw,(fun _=>⟨rfl,rfl,rfl,rfl⟩),fun hc=>by cases hc⟩ rfl
  ·rename_i hw;split at hx
   ·simp at hx
   ·rename_i v q' h' l b hx4;simp only[Option.map_eq_some_iff]at hx;obtain⟨⟨rs',sf',qf',hf'⟩,hrec,he⟩:=hx;simp only[Prod.mk.injEq]at he;obtain⟨h1,rfl,rfl,rfl⟩:=he;obtain⟨t1,t2⟩:=x4_ok hk hd hw hx4;exact fin v q' h' l b _ rs' h1.symm hrec t1 t2
theorem xd4_ok{call:CallR2}(hk:CallOk2 P call){ow:Nat→Bool}{n:Nat}{ops:List Oper}{s sf:Slots}{q qf:Option Nat}{h hf:Heap}(hpre: ∀ i j,j<ops.length→pre ops i j=true→i<j)(hx:xd4 P wf call ow n ops h.next s q ⟨h.next+ops.length,h.obj⟩=some (sf,qf,hf)):
  (∀ K:Slots→Heap→Prop,K sf hf→ ∃ sk hk vk lt br,sk 0=s∧hk 0=⟨h.next+ops.length,h.obj⟩∧K (sk ops.length) (hk ops.length)∧Facts P ow wf n ops h.next sk hk vk lt br)∧(∀ h0,Tch q h0 ⟨h.next+ops.length,h.obj⟩→Tch qf h0 hf):=by
 unfold xd4 at hx;split at hx
 ·simp at hx
 rename_i rs sf' qf' hf' hr;split at hx
 case isFalse=>simp at hx
 rename_i hc;simp only[Option.some.injEq,Prod.mk.injEq]at hx;obtain⟨rfl,rfl,rfl⟩:=hx;simp only[Bool.and_eq_true]at hc;obtain⟨⟨hww,hlate⟩,hquiet⟩:=hc;obtain⟨hlen,g2,g3,g4,g5⟩:=xr4_ok hk ops 0 hr;refine⟨fun K hK=>⟨gS rs sf',gH rs hf',gV rs,gL rs,gB rs,g2,g3,?_,?_⟩,g4⟩
 ·have e1:gS rs sf' ops.length=sf':=by unfold gS;rw[List.getElem?_eq_none (by omega)]
  have e2:gH rs hf' ops.length=hf':=by unfold gH;rw[List.getElem?_eq_none (by omega)]
  rw[e1,e2];exact hK
 ·have late: ∀ j f o,j<ops.length→(gB rs j||(gL rs j).isSome)=true→j<f→ops[f]? =some o→isA ow o=true→(if gB rs j=true then((gH rs hf' (j+1)).obj (h.next+f)).isNone else match gL rs j with|some p=>!(h.next+f==p.1)|none=>true)=true:=by
   intro j f o hj hb hjf ho ha;have h1:=rng_iff.1 hlate j hj;rw[hb]at h1;simp only[Bool.not_true,Bool.false_or]at h1;have h2:=rng_iff.1 h1 f (List.getElem?_eq_some_iff.1 ho).1;have h3:(decide (j<f)&&(ops[f]?).any (isA ow))=true:=(by rw[ho];simp[hjf,ha]);rw[h3]at h2;simpa using h2
  have segA: ∀ (M d:Nat),M+d≤ops.length→(∀ j,M≤j→j<M+d→gB rs j=false)→gH rs hf' (M+d)=lob (gL rs) (fun f=>decide (M≤f)) (gH rs hf' M) (M+d):=by
   intro M d
   induction d with
   |zero=>
    intro _ _;have:=lob_hi (lt:=gL rs) (p:=fun f=>decide (M≤f)) (H:=gH rs hf' M) (m:=0) M (fun f _ hf _=>by simp;omega);rw[Nat.zero_add]at this;rw[Nat.add_zero,this];try rfl
   |succ d ih=>
    intro h1 h2;have ih:=ih (by omega) (fun j a b=>h2 j a (by omega));have hS:=g5 (M+d) ops[M+d] (List.getElem?_eq_getElem (by omega));have hb:=h2 (M+d) (by omega) (by omega);obtain⟨w,_,k1,k2⟩:=hS.ok;rw[show M+(d+1)=M+d+1 by omega,lob_succ];have key:gH rs hf' (M+d+1)=match gL rs (M+d)with|some q=>(gH rs hf' (M+d)).set q.1 q.2|none=>gH rs hf' (M+d):=by
     cases w with
     |false=>rw[(k1 rfl).2.2.1];exact(k1 rfl).2.1
     |true=>
      cases hiw:isW ow wf ops[M+d]with
      |false=>rw[((k2 rfl).2.1 hiw).2.1];exact((k2 rfl).2.1 hiw).1
      |true=>
       rcases(k2 rfl).2.2 hiw with k3|k3|k3
       ·rw [k3.1]at hb;simp at hb
       ·obtain ⟨_,_,ob,k4,_,k5⟩:=k3;rw[k4];simpa using k5
       ·obtain ⟨_,_,_,_,_,_,_,ob,_,_,k4,k5,_⟩:=k3;rw[k4];exact k5
    rw[key];cases hl:gL rs (M+d)with
    |none=>simp only;exact ih
    |some q=>simp only[show decide (M≤M+d)=true by simp,if_true];rw[ih]
  have wwP: ∀ i j,i<j→j<ops.length→(gB rs i=true∨(gL rs i).isSome=true)→(gB rs j=true∨(gL rs j).isSome=true)→
    pre ops i j=true∨(∃ p q,gL rs i=some p∧gL rs j=some q∧p.1≠q.1)∨(gB rs i=true∧(gL rs j).isSome=true∧ ∃ o,ops[j]? =some o∧isA ow o=true)∨((gL rs i).isSome=true∧gB rs j=true∧ ∃ o,ops[i]? =some o∧isA ow o=true):=by
   intro i j hij hj hi hj2;have h1:=rng_iff.1 hww j hj;have hj3:(gB rs j||(gL rs j).isSome)=true:=(by simpa using hj2);have hi3:(gB rs i||(gL rs i).isSome)=true:=(by simpa using hi);rw[hj3]at h1;simp only[Bool.not_true,Bool.false_or]at h1;have h2:=rng_iff.1 h1 i hij;rw[hi3]at h2;simp only[Bool.not_true,Bool.false_or,Bool.or_eq_true]at h2;rcases h2 with((h2|h2)|h2)|h2
   ·exact .inl h2
   ·right;left;split at h2
    ·rename_i p q e1 e2;exact⟨p,q,e1,e2,by simpa using h2⟩
    ·simp at h2
   ·simp only[Bool.and_eq_true]at h2;refine .inr (.inr (.inl ⟨h2.1.1,h2.1.2,ops[j],List.getElem?_eq_getElem hj,?_⟩));have:=h2.2;rw[List.getElem?_eq_getElem hj]at this;simpa using this
   ·simp only[Bool.and_eq_true]at h2;refine .inr (.inr (.inr ⟨h2.1.1,h2.1.2,ops[i],List.getElem?_eq_getElem (by omega),?_⟩));have:=h2.2;rw[List.getElem?_eq_getElem (by omega)]at this;simpa using this
  have kxL: ∀ j,j<ops.length→(∀ f p,j<f→(hf:f<ops.length)→gL rs f=some p→isA ow ops[f]=false→pre ops j f=true)→ ∀ id∈kx ow ops (gL rs) j,id∈killsAt ow ops h.next j (lsAt rs 0 [] j):=by
   intro j hjl hst id hid;obtain⟨f,p,m1,m2,m3,m4,m5,m6⟩:=kx_mem hid;unfold killsAt;rw[List.mem_append];rcases Nat.lt_trichotomy f j with m7|m7|m7
   ·left;rw[List.mem_filterMap];have:=lsAt_mem rs 0 [] j f p (by omega) m7 m5;rw[Nat.zero_add]at this;have hjf:pre ops j f=false:=by
     cases hpp:pre ops j f with
     |false=>rfl
     |true=>have:=hpre j f m1 hpp;omega
    exact⟨_,this,by simp[unoB,m2,m3,hjf,m6]⟩
   ·exact (m2 m7.symm).elim
   ·right;have hSf:=g5 f ops[f] (List.getElem?_eq_getElem m1);rw[Nat.zero_add]at hSf;have fA:isA ow ops[f]=true:=by
     cases hA:isA ow ops[f]with
     |true=>rfl
     |false=>
      rcases m4 with m4|m4
      ·rw [hst f p m7 m1 m5 hA]at m4;simp at m4
      ·rw [hA]at m4;simp at m4
    obtain⟨wf',_,f1,f2⟩:=hSf.ok;cases wf' with
    |false=>rw[(f1 rfl).2.2.1]at m5;simp at m5
    |true=>
     cases hiwf:isW ow wf ops[f]with
     |false=>rw[((f2 rfl).2.1 hiwf).2.1]at m5;simp at m5
     |true=>
      rcases(f2 rfl).2.2 hiwf with f3|f3|f3
      ·rw [f3.2.1]at m5;simp at m5
      ·obtain ⟨_,_,ob,f4,_⟩:=f3;rw[f4]at m5;simp at m5;rw[List.mem_map];refine⟨f,?_,by rw[← m6, ← m5]⟩;unfold laterA;rw[List.mem_filter];exact⟨List.mem_range.2 m1,by rw[List.getElem?_eq_getElem m1];simp[m7,fA]⟩
      ·obtain ⟨_,_,_,_,_,_,_,_,f4,_⟩:=f3;unfold isA at fA;rw[f4]at fA;simp at fA
  refine⟨fun j o ho=>?_,fun i j hij hj hi hj2=>?_⟩
  ·have hS:=g5 j o ho;rw[Nat.zero_add]at hS;have hjl:j<ops.length:=(List.getElem?_eq_some_iff.1 ho).1;obtain⟨w,k0,k1,k2⟩:=hS.ok;refine⟨hS.dst,w,k0,k1,fun hw=>?_⟩;obtain⟨k3,k4,k5⟩:=k2 hw;refine⟨k3,fun hiw=>?_,fun hiw=>?_⟩
   ·obtain ⟨t1,t2,t3,t4⟩:=k4 hiw;refine⟨t1,t2,t3,fun M hM=>?_⟩;have hq:=rng_iff.1 hquiet j hjl;rw[ho]at hq;simp only[hiw,Bool.false_or]at hq;rw[hw]at k0;rw[k0]at hq;simp only at hq;have hq2:=rng_iff.1 hq M (by have:=hM.1;omega);have hcut:cutB ops (gB rs) j M=true:=by
     unfold cutB;simp only[Bool.and_eq_true,Bool.or_eq_true,beq_iff_eq];refine⟨hM.2.2.2,rng_iff.2 fun b hb=>?_⟩;cases hbb:gB rs b with
     |false=>rfl
     |true=>
      simp only[Bool.not_true,Bool.false_or];split
      ·rename_i hbm;rw[hM.2.1 b hbm hbb];try rfl
      ·rename_i hbm;rw[hM.2.2.1 b (by omega) hbb];try rfl
    rw[hcut]at hq2;simp only[Bool.not_true,Bool.false_or,Bool.or_eq_true]at hq2;rcases hq2 with hq2|hq2
    ·simp only[Bool.and_eq_true,beq_iff_eq]at hq2;obtain⟨hMl,hns⟩:=hq2;refine⟨killsAt ow ops h.next j (lsAt rs 0 [] j),kxL j hjl (fun f p m1 m2 m3 m4=>?_),?_⟩
     ·have hSf:=g5 f ops[f] (List.getElem?_eq_getElem m2);obtain⟨wf',_,f1,f2⟩:=hSf.ok;cases wf' with
      |false=>rw[(f1 rfl).2.2.1]at m3;simp at m3
      |true=>
       cases hiwf:isW ow wf ops[f]with
       |false=>rw[((f2 rfl).2.1 hiwf).2.1]at m3;simp at m3
       |true=>
        rcases(f2 rfl).2.2 hiwf with f3|f3|f3
        ·rw [f3.2.1]at m3;simp at m3
        ·obtain ⟨_,fA,_⟩:=f3;rw[fA]at m4;simp at m4
        ·obtain ⟨_,_,_,_,_,_,_,_,f4,_⟩:=f3;have:=rng_iff.1 hns f m2;rw[List.getElem?_eq_getElem m2]at this;simp[m1,isSt,f4,unoB,show ¬ j=f by omega]at this;cases hpp:pre ops f j with
         |true=>have:=hpre f j hjl hpp;omega
         |false=>exact this.resolve_right (by rw[hpp];simp)
     ·-- the heap at k, with what stands apart hidden
      have hMj:M≤j:=(by rw[hMl];exact(lastOf_spec _ _).1);have hnb: ∀ b,M≤b→b<M+(j-M)→gB rs b=false:=by
       intro b b1 b2;have:=(lastOf_spec (gB rs) j).2.2 b (by rw[hMl]at b1;exact b1) (by omega);simpa using this
      have hseg:=segA M (j-M) (by omega) hnb;rw[show M+(j-M)=j by omega]at hseg;have hgx:gx ops (gL rs) (gH rs hf') j M (killsAt ow ops h.next j (lsAt rs 0 [] j))=killL (gH rs hf' j) (killsAt ow ops h.next j (lsAt rs 0 [] j)):=by
       unfold gx;obtain⟨d,hdd⟩: ∃ d,ops.length=j+d:=⟨ops.length-j,by omega⟩;have h2:gH rs hf' j=lob (gL rs) (fun f=>decide (M≤f)&&decide (f<j)) (gH rs hf' M) ops.length:=by
        rw[hseg,hdd,lob_hi d (fun f a _ _=>by simp;omega)];exact lob_congr _ fun f hf _=>by simp[hf]
       rw[h2];refine lob_kill _ fun f p hf hl=>?_;by_cases hMf:M≤f
       ·simp only[hMf,decide_true,Bool.true_and];cases hp:pre ops f j with
        |true=>
         rcases Nat.lt_or_ge f j with m7|m7
         ·left;simp[m7]
         ·right
          -- it stands behind and before: looked at as apart only when it is; else nothing is noted
          exact absurd hp (by
           have:=hpre f j hjl hp;omega)
        |false=>
         rcases Nat.lt_or_ge f j with m7|m7
         ·right;unfold killsAt;rw[List.mem_append];left;rw[List.mem_filterMap];have hm:=lsAt_mem rs 0 [] j f p (by omega) m7 hl;rw[Nat.zero_add]at hm;have hjf:pre ops j f=false:=by
           cases hpp:pre ops j f with
           |false=>rfl
           |true=>have:=hpre j f hf hpp;omega
          exact⟨_,hm,by simp[unoB,hp,hjf,show ¬ j=f by omega]⟩
         ·left;simp;omega
       ·left;simp[hMf]
      rw[hgx];exact t4
    ·exact ⟨kx ow ops (gL rs) j,fun id hid=>hid,xagain_ok2 hk hq2⟩
   ·rcases k5 hiw with⟨t1,t2,H',t3,t4,t5,t6⟩|⟨t1,t2,t3⟩|⟨t1,t,x,y,id,r,f,ob,u1,u2,u3,u4,u5⟩
    ·have hkL: ∀ id∈kx ow ops (gL rs) j,id∈killsAt ow ops h.next j (lsAt rs 0 [] j):=kxL j hjl (fun f p m1 m2 m3 m4=>by
      rcases wwP j f m1 m2 (.inl t1) (.inr (by rw[m3];try rfl))with h5|⟨_,_,h5,_⟩|⟨_,_,o2,h5,h6⟩|⟨h5,_⟩
      ·exact h5
      ·rw [t2]at h5;simp at h5
      ·rw [List.getElem?_eq_getElem m2]at h5;simp at h5;rw[h5,h6]at m4;simp at m4
      ·rw [t2]at h5;simp at h5)
     have hLk: ∀ id∈killsAt ow ops h.next j (lsAt rs 0 [] j),id∈kx ow ops (gL rs) j∨(gH rs hf' j).obj id=none:=fun id hid=>by
      unfold killsAt at hid;rw[List.mem_append]at hid;rcases hid with hid|hid
      ·rw [List.mem_filterMap]at hid;obtain⟨x,m1,m2⟩:=hid;rcases lsAt_inv _ _ _ _ _ m1 with m3|⟨f,p,m3,m4,rfl⟩
       ·simp at m3
       ·left;split at m2
        ·rename_i hu;simp at m2;simp[unoB]at hu;rw[← m2];exact mem_kx (show f<ops.length by omega) hu.1.1 hu.2 (.inl hu.1.2) m4
        ·simp at m2
      ·rw [List.mem_map]at hid;obtain⟨f,m1,rfl⟩:=hid;exact .inr (t6 f m1)
     have eK:killL (gH rs hf' j) (kx ow ops (gL rs) j)=killL (gH rs hf' j) (killsAt ow ops h.next j (lsAt rs 0 [] j)):=heap_ext rfl fun id=>by
      simp only[killL];by_cases m1:id∈kx ow ops (gL rs) j
      ·simp [m1,hkL id m1]
      ·by_cases m2:id∈killsAt ow ops h.next j (lsAt rs 0 [] j)
       ·have:=(hLk id m2).resolve_left m1;simp[m1,m2,this]
       ·simp [m1,m2]
     have eP:putL H' (gH rs hf' j) (kx ow ops (gL rs) j)=putL H' (gH rs hf' j) (killsAt ow ops h.next j (lsAt rs 0 [] j)):=heap_ext rfl fun id=>by
      simp only[putL];by_cases m1:id∈kx ow ops (gL rs) j
      ·simp [m1,hkL id m1]
      ·by_cases m2:id∈killsAt ow ops h.next j (lsAt rs 0 [] j)
       ·have:=(hLk id m2).resolve_left m1;simp[m1,m2,this]
       ·simp [m1,m2]
     refine .inl ⟨t1,t2,⟨H',by rw[eK];exact t3,fun id hid=>t4 id (hkL id hid),by rw[eP];exact t5⟩,fun f q hjf hq ha=>?_⟩;have:=late j f q hjl (by simp[t1]) hjf hq ha;rw[if_pos t1]at this;simpa using this
    ·exact .inr (.inl ⟨t1,t2,t3⟩)
    ·refine .inr (.inr ⟨t1,t,x,y,id,r,f,ob,u1,u2,u3,u4,fun f' q hjf hq ha=>?_,u5⟩);have:=late j f' q hjl (by simp[u3]) hjf hq ha;rw[if_neg (by simp[t1]),u3]at this;simpa using this
  ·exact wwP i j hij hj hi hj2
theorem xc_ok2{call:CallR2}(hk:CallOk2 P call){ow:Nat→Bool}{n:Nat}: ∀ (m:Nat)(c:Code){s s':Slots}{q q':Option Nat}{h h':Heap}{e:Exit},xc2 P wf call ow n m c s q h=some (e,s',q',h')→
  (∀ Q:Post,Q e s' h'→awp P ow wf n c Q s h)∧(∀ h0,Tch q h0 h→Tch q' h0 h')
 |0,c,s,s',q,q',h,h',e,hx=>by simp[xc2]at hx
 |m+1,c,s,s',q,q',h,h',e,hx=>by
  unfold xc2 at hx;split at hx
  ·simp only[Option.some.injEq,Prod.mk.injEq]at hx;obtain⟨rfl,rfl,rfl,rfl⟩:=hx;exact⟨fun Q hQ=>by simpa only[awp]using hQ,fun h0 hq=>hq⟩
  ·rename_i id ops;split at hx
   ·rename_i hdo;simp only[Option.map_eq_some_iff,Prod.mk.injEq]at hx;obtain⟨⟨s1,q1,h1⟩,hx,rfl,rfl,rfl,rfl⟩:=hx;have:=fun(Q:Post)=>xd_ok2 (K:=Q .normal) hk _ _ hx;exact⟨fun Q hQ=>by simp only[awp,if_true];exact⟨_,_,.refl,.inl ⟨hdo,(this Q).1 hQ⟩⟩,(this (fun _ _ _=>True)).2⟩
   ·split at hx
    ·rename_i hdo;simp only[Option.map_eq_some_iff,Prod.mk.injEq]at hx;obtain⟨⟨s1,q1,h1⟩,hx,rfl,rfl,rfl,rfl⟩:=hx;have:=fun(Q:Post)=>xd_ok3 (K:=Q .normal) hk _ _ hx;refine⟨fun Q hQ=>by simp only[awp,if_true];exact⟨_,_,.refl,.inr (.inl ⟨hdo,(this Q).1 hQ⟩)⟩,fun h0 hq=>(this (fun _ _ _=>True)).2 h0 (hq.trans ?_)⟩;exact⟨Nat.le_add_right _ _,fun _ _=>rfl⟩
    ·split at hx
     ·rename_i hdo;simp only[Option.map_eq_some_iff,Prod.mk.injEq]at hx;obtain⟨⟨s1,q1,h1⟩,hx,rfl,rfl,rfl,rfl⟩:=hx;obtain⟨t1,t2⟩:=xd4_ok hk (fun i j hj hp=>pre_lt3 (DOk3.of hdo) j i hj hp) hx;refine⟨fun Q hQ=>by simp only[awp,if_true];exact⟨_,_,.refl,.inr (.inr ⟨hdo,t1 (Q .normal) hQ⟩)⟩,fun h0 hq=>t2 h0 (hq.trans ?_)⟩;exact⟨Nat.le_add_right _ _,fun _ _=>rfl⟩
     ·simp at hx
  ·rename_i id ops;simp only[Option.map_eq_some_iff,Prod.mk.injEq]at hx;obtain⟨⟨s1,q1,h1⟩,hx,rfl,rfl,rfl,rfl⟩:=hx;have:=fun(Q:Post)=>xl_ok2 (K:=Q .normal) hk _ hx;exact⟨fun Q hQ=>by simp only[awp,Bool.false_eq_true,if_false];exact⟨_,_,.refl,(this Q).1 hQ⟩,(this (fun _ _ _=>True)).2⟩
  ·rename_i a b;split at hx
   ·rename_i s1 q1 h1 ha;obtain⟨a1,a2⟩:=xc_ok2 hk m a ha;obtain⟨b1,b2⟩:=xc_ok2 hk m b hx;exact⟨fun Q hQ=>by simp only[awp];exact a1 _ (b1 Q hQ),fun h0 hq=>b2 h0 (a2 h0 hq)⟩
   ·rename_i hne;obtain⟨a1,a2⟩:=xc_ok2 hk m a hx;refine⟨fun Q hQ=>?_,a2⟩;simp only[awp];refine a1 _ ?_;cases e<;>simp only[Post.seq]<;>first|exact hQ|exact(hne _ _ _ hx).elim
  ·rename_i c x y;split at hx
   ·rename_i hc;obtain⟨a1,a2⟩:=xc_ok2 hk m x hx;exact⟨fun Q hQ=>by simp only[awp,hc,if_true];exact a1 Q hQ,a2⟩
   ·rename_i hc;obtain⟨a1,a2⟩:=xc_ok2 hk m y hx;exact⟨fun Q hQ=>by simp only[awp,hc,Bool.false_eq_true,if_false];exact a1 Q hQ,a2⟩
   ·simp at hx
  ·rename_i id c;split at hx
   ·rename_i id' s1 q1 h1 ha;obtain⟨a1,a2⟩:=xc_ok2 hk m c ha;simp only[Option.some.injEq,Prod.mk.injEq]at hx;obtain⟨rfl,rfl,rfl,rfl⟩:=hx;refine⟨fun Q hQ=>?_,a2⟩;simp only[awp];refine a1 _ ?_;simp only[Post.block];split<;>rename_i hid<;>simpa only[hid,if_true,if_false]using hQ
   ·rename_i hne;obtain⟨a1,a2⟩:=xc_ok2 hk m c hx;refine⟨fun Q hQ=>?_,a2⟩;simp only[awp];refine a1 _ ?_;cases e<;>simp only[Post.block]<;>first|exact hQ|exact(hne _ _ _ _ hx).elim
  ·rename_i c;split at hx
   ·rename_i s1 q1 h1 ha;obtain⟨a1,a2⟩:=xc_ok2 hk m c ha;obtain⟨b1,b2⟩:=xc_ok2 hk m (.loop c) hx;refine⟨fun Q hQ=>?_,fun h0 hq=>b2 h0 (a2 h0 hq)⟩;have:=b1 Q hQ;simp only[awp]at this⊢;obtain⟨j,hj⟩:=this;exact⟨j+1,a1 _ hj⟩
   ·rename_i hne;obtain⟨a1,a2⟩:=xc_ok2 hk m c hx;refine⟨fun Q hQ=>?_,a2⟩;simp only[awp];refine⟨1,a1 _ ?_⟩;cases e<;>simp only[Post.seq]<;>first|exact hQ|exact(hne _ _ _ hx).elim
  ·simp only[Option.some.injEq,Prod.mk.injEq]at hx;obtain⟨rfl,rfl,rfl,rfl⟩:=hx;exact⟨fun Q hQ=>by simpa only[awp]using hQ,fun h0 hq=>hq⟩
  ·simp only[Option.some.injEq,Prod.mk.injEq]at hx;obtain⟨rfl,rfl,rfl,rfl⟩:=hx;exact⟨fun Q hQ=>by simpa only[awp]using hQ,fun h0 hq=>hq⟩
  ·simp at hx
theorem xf_ok2(hm:P.follows .mixedOrders=true){ext:FuncId→List PV→Heap→Option PV}(hext:ExtOk2 P ext){keep:FuncId→Bool}{m:Nat}: ∀ k,CallOk2 P (xf2 P wf own ext keep m k)
 |0,f,args,h,v,q,h',hx=>by simp[xf2]at hx
 |k+1,f,args,h,v,q,h',hx=>by
  unfold xf2 at hx;split at hx
  ·rename_i r hr;simp only[Option.some.injEq,Prod.mk.injEq]at hx;obtain⟨rfl,rfl,rfl⟩:=hx;exact⟨hext _ _ _ _ hr,rfl⟩
  split at hx
  ·simp at hx
  ·rename_i fn hf;split at hx
   case isFalse=>simp at hx
   rename_i hh;split at hx
   ·simp at hx
   ·rename_i c hb;split at hx
    case h_2=>simp at hx
    rename_i s q1 h1 hc;split at hx
    ·simp at hx
    ·rename_i vs hr;have main:PCall P f args h (fun r h2=>r=resV vs∧h2=h1)∧Tch q1 h h1:=by
      obtain⟨e,he,hc⟩:=endS_some hc;obtain⟨a1,a2⟩:=xc_ok2 (xf_ok2 hm hext k) m c hc;refine⟨pcall_body hm hf hb hh.1 hh.2 (a1 _ ?_),a2 h rfl⟩;rcases he with rfl|rfl<;>simp only[retPost,hr]<;>exact⟨trivial,trivial⟩
     split at hx
     ·rename_i hkp;simp only[Bool.and_eq_true]at hkp;split at hx
      ·rename_i r hfr;simp only[Option.some.injEq,Prod.mk.injEq]at hx;obtain⟨rfl,rfl,rfl⟩:=hx;refine⟨pcall_wf hh.1 fun hwf=>PCall.drop (main.1.mono ?_),rfl⟩;rintro r' h' ⟨rfl,rfl⟩;have hold: ∀ id,id<h.next→h'.obj id=h.obj id:=by
        intro id hid;have ht:=main.2;cases q1 with
        |none=>simp only[Tch]at ht;rw[ht]
        |some t=>
         simp only[Tch]at ht;have:=hkp.2;simp[dropB]at this;exact ht.2 id (by omega)
       refine⟨r,h,⟨rfl,rfl⟩,frzP_ok _ _ hfr,Nat.le_refl _,fun id o ho=>?_⟩;have hid:=hwf id (by rw[ho];try rfl);exact⟨by rw[hold id hid];exact ho,hid,.inl ho⟩
      ·simp only[Option.some.injEq,Prod.mk.injEq]at hx;obtain⟨rfl,rfl,rfl⟩:=hx;exact main
     ·simp only[Option.some.injEq,Prod.mk.injEq]at hx;obtain⟨rfl,rfl,rfl⟩:=hx;exact main
end
end Go.AM
namespace Go.AM
section
variable {P:Program}
theorem ObjOk.blk_lt{β:Env}{n:Nat}{F:Nat→Prop}{w:World}{k:Blk}{o:AObj}(ho:ObjOk β n F w k o){b:Nat}(hb:k.b=some b):b<w.heap.size:=by
 cases o with
 |arr z rows=>
  simp only[ObjOk]at ho;rcases ho.2 with h1|⟨b',c,e,fr,h1,h2,_⟩
  ·rw [h1.1]at hb;simp at hb
  ·rw [h1]at hb;simp at hb;subst hb;exact(Array.getElem?_eq_some_iff.1 h2).1
 |map es=>
  simp only[ObjOk]at ho;obtain⟨b',fs,clock,h1,h2,_⟩:=ho;rw[h1]at hb;simp at hb;subst hb;exact(Array.getElem?_eq_some_iff.1 h2).1
 |glb g lo hi=>
  simp only[ObjOk]at ho;rw[ho.1]at hb;simp at hb
theorem PCall.part{f:FuncId}{args:List PV}{hS h:Heap}{v:PV}(hc:PCall P f args hS fun r h'=>r=v∧h'=hS)(hle:hS.next≤h.next)(hsub: ∀ id o,hS.obj id=some o→h.obj id=some o∧id<hS.next∧inNO hS.next o)(hargs:inNL hS.next args):
  PCall P f args h fun r h'=>r=v∧h'=h:=by
 intro β w vals sm hr;have live: ∀ id,(hS.obj id).isSome=true→(h.obj id).isSome=true∧id<hS.next:=fun id hs=>by
  obtain⟨o,ho⟩:=Option.isSome_iff_exists.1 hs;obtain⟨g1,g2,_⟩:=hsub id o ho;exact⟨by rw[g1];try rfl,g2⟩
 let X':Nat→Prop:=fun b=>β.X b∨ ∃ id,(h.obj id).isSome=true∧hS.obj id=none∧(β id).b=some b;have fzS: ∀ b,Fz β h w b→Fz ⟨β.bl,X'⟩ hS w b:=fun b hb=>⟨hb.1,fun id hs=>hb.2.1 id (live id hs).1,fun hx=>by
  rcases hx with hx|⟨id,h1,_,h3⟩
  ·exact hb.2.2 hx
  ·exact hb.2.1 id h1 h3⟩
 have mvS:Mv β h.next (Fz β h w) w ⟨β.bl,X'⟩ h.next (Fz ⟨β.bl,X'⟩ hS w) w:=⟨Nat.le_refl _,fun _ _ _=>rfl,fun b hb=>⟨fzS b hb,rfl⟩⟩
 have smS:Sim ⟨β.bl,X'⟩ hS w:=by
  refine⟨fun id hs=>(live id hs).2,fun id o ho=>?_,fun i j h1 h2 b g1 g2=>sm.inj i j (live i h1).1 (live j h2).1 b g1 g2,fun b hx=>?_,fun id hs b hb hx=>?_,fun id hs=>sm.o0 id (live id hs).1⟩
  ·obtain ⟨g1,g2,g3⟩:=hsub id o ho;exact ObjOk.low (F:=Fz ⟨β.bl,X'⟩ hS w) (fun b hb=>hb) g3 (ObjOk.mv mvS (fun _ _=>rfl) (sm.ok id o g1))
  ·rcases hx with hx|⟨id,h1,_,h3⟩
   ·exact sm.xs b hx
   ·obtain ⟨o,ho⟩:=Option.isSome_iff_exists.1 h1;exact(sm.ok id o ho).blk_lt h3
  ·rcases hx with hx|⟨id',h1,h2,h3⟩
   ·exact sm.nx id (live id hs).1 b hb hx
   ·have:=sm.inj id id' (live id hs).1 h1 b hb h3;subst this;rw[h2]at hs;simp at hs
 have hrS:RepL ⟨β.bl,X'⟩ hS.next (Fz ⟨β.bl,X'⟩ hS w) w args vals:=RepL.low (F:=Fz ⟨β.bl,X'⟩ hS w) (fun b hb=>hb) _ _ hargs (RepL.mv mvS _ _ hr)
 refine(hc ⟨β.bl,X'⟩ w vals smS hrS).mono ?_;rintro e w' ⟨r,h',β',u,rfl,⟨rfl,rfl⟩,sm',hrep,ex⟩;have bE: ∀ id,id<h'.next→β' id=β id:=fun id hid=>ex.beta id hid
 -- what nobody writes again, of the whole heap
 have fzB: ∀ b,Fz β' h' w' b→Fz β h w' b:=fun b hb=>⟨hb.1,fun id hs hbb=>by
  cases ho:h'.obj id with
  |none=>
   refine hb.2.2 ?_;rw[ex.X];exact .inr ⟨id,hs,ho,hbb⟩
  |some o=>
   have hid:=(live id (by rw[ho];try rfl)).2;exact hb.2.1 id (by rw[ho];try rfl) (by rw[bE id hid];exact hbb),fun hx=>hb.2.2 (by rw[ex.X];exact .inl hx)⟩
 have mB:Mv β' h'.next (Fz β' h' w') w' β h.next (Fz β h w') w':=⟨hle,fun id hid _=>(bE id hid).symm,fun b hb=>⟨fzB b hb,rfl⟩⟩
 have mF:Mv β h.next (Fz β h w) w β h.next (Fz β h w') w':=⟨Nat.le_refl _,fun _ _ _=>rfl,fun b hb=>by
  obtain⟨g1,g2⟩:=ex.fz b (fzS b hb);exact⟨fzB b g1,g2⟩⟩
 refine⟨r,h,β,u,rfl,⟨rfl,rfl⟩,?_,Rep.mv mB _ _ hrep,?_⟩
 ·refine ⟨sm.lt,fun id o ho=>?_,sm.inj,fun b hx=>Nat.lt_of_lt_of_le (sm.xs b hx) ex.size,sm.nx,sm.o0⟩;cases hos:h'.obj id with
  |some o'=>
   obtain⟨g1,g2,_⟩:=hsub id o' hos;rw[ho]at g1;simp at g1;subst g1;have:=ObjOk.mv mB (fun _ _=>rfl) (sm'.ok id o hos);rw[bE id g2]at this;exact this
  |none=>
   refine ObjOk.mv mF (fun b hb=>?_) (sm.ok id o ho);refine ex.xh b (.inr ⟨id,by rw[ho];try rfl,hos,hb⟩) ((sm.ok id o ho).blk_lt hb)
 ·exact ⟨ex.os,ex.tape,ex.output,ex.size,Nat.le_refl _,fun _ _=>rfl,rfl,fun b hb hl=>ex.xh b (.inl hb) hl,fun b hb=>mF.fz b hb⟩
def arrless(h:Heap):Heap:=⟨h.next,fun id=>match h.obj id with
 |some (.glb g lo hi)=>some (.glb g lo hi)
 |_=>none⟩
theorem arrless_some{h:Heap}{id:Nat}{o:AObj}(ho:(arrless h).obj id=some o):h.obj id=some o:=by
 simp only[arrless]at ho;split at ho
 ·rename_i hg;rw[hg];exact ho
 ·simp at ho
theorem arrless_blk{β:Env}{n:Nat}{F:Nat→Prop}{w:World}{h:Heap}{id:Nat}{o:AObj}{b:Nat}(ho:h.obj id=some o)(hk:ObjOk β n F w (β id) o)(hb:(β id).b=some b):(arrless h).obj id=none:=by
 simp only[arrless];split
 ·rename_i g lo hi hg;rw[ho]at hg;simp at hg;subst hg;simp only[ObjOk]at hk;rw[hk.1]at hb;simp at hb
 ·rfl
theorem PCall.lend{f:FuncId}{args args':List PV}{h:Heap}{u:Value}(hc:PCall P f args' (arrless h) fun r h'=>r= .sc u∧h'=arrless h)
  (hrep: ∀ (β:Env)(w:World)(vals:List Value),Sim β h w→RepL β h.next (Fz β h w) w args vals→RepL β h.next (Fz β (arrless h) w) w args' vals):
  PCall P f args h fun r h'=>r= .sc u∧h'=h:=by
 intro β w vals sm hr;have live: ∀ id,((arrless h).obj id).isSome=true→(h.obj id).isSome=true:=fun id hs=>by
  obtain⟨o,ho⟩:=Option.isSome_iff_exists.1 hs;rw[arrless_some ho];try rfl
 have fzS: ∀ b,Fz β h w b→Fz β (arrless h) w b:=fun b hb=>⟨hb.1,fun id hs=>hb.2.1 id (live id hs),hb.2.2⟩;have mvS:Mv β h.next (Fz β h w) w β h.next (Fz β (arrless h) w) w:=⟨Nat.le_refl _,fun _ _ _=>rfl,fun b hb=>⟨fzS b hb,rfl⟩⟩
 have smS:Sim β (arrless h) w:=
  ⟨fun id hs=>sm.lt id (live id hs),fun id o ho=>ObjOk.mv mvS (fun _ _=>rfl) (sm.ok id o (arrless_some ho)),fun i j h1 h2 b g1 g2=>sm.inj i j (live i h1) (live j h2) b g1 g2,sm.xs,fun id hs b hb=>sm.nx id (live id hs) b hb,fun id hs=>sm.o0 id (live id hs)⟩
 refine(hc β w vals smS (hrep β w vals sm hr)).mono ?_;rintro e w' ⟨r,h',β',x,rfl,⟨rfl,rfl⟩,sm',hx,ex⟩;have same: ∀ b,Fz β (arrless h) w b→w'.heap[b]? =w.heap[b]?:=fun b hb=>(ex.fz b hb).2;have fzK: ∀ b,Fz β h w b→Fz β h w' b:=fun b hb=>⟨Nat.lt_of_lt_of_le hb.1 ex.size,hb.2.1,hb.2.2⟩;have mF:Mv β h.next (Fz β h w) w β h.next (Fz β h w') w':=⟨Nat.le_refl _,fun _ _ _=>rfl,fun b hb=>⟨fzK b hb,same b (fzS b hb)⟩⟩
 have bE: ∀ id,id<h.next→β' id=β id:=fun id hid=>ex.beta id hid
 have fzB: ∀ b,Fz β' (arrless h) w' b→b<w'.heap.size∧¬ β.X b:=fun b hb=>⟨hb.1,fun hx=>hb.2.2 (by rw[ex.X];exact hx)⟩
 -- the block of rows is written by nobody during the call
 have arrB: ∀ id o b,h.obj id=some o→(β id).b=some b→Fz β (arrless h) w b:=by
  intro id o b ho hb;have hs:(h.obj id).isSome=true:=by rw[ho];try rfl
  refine⟨(sm.ok id _ ho).blk_lt hb,fun j hj hbb=>?_,sm.nx id hs b hb⟩;have:=sm.inj id j hs (live j hj) b hb hbb;subst this;rw[arrless_blk ho (sm.ok id _ ho) hb]at hj;simp at hj
 refine⟨.sc u,h,β,x,rfl,⟨rfl,rfl⟩,?_,?_,?_⟩
 ·refine ⟨sm.lt,fun id o ho=>?_,sm.inj,fun b hb=>Nat.lt_of_lt_of_le (sm.xs b hb) ex.size,sm.nx,sm.o0⟩;exact ObjOk.mv mF (fun b hb=>same b (arrB id o b ho hb)) (sm.ok id _ ho)
 ·simp only[RepH,Rep]at hx⊢;exact hx
 ·exact ⟨ex.os,ex.tape,ex.output,ex.size,Nat.le_refl _,fun _ _=>rfl,rfl,fun b hb hl=>ex.xh b hb hl,fun b hb=>mF.fz b hb⟩
end
end Go.AM
namespace Go.AM
inductive Sx where
 |mk(kind value line col:Int)(text:ByteArray)(kids:List Sx)
mutual
def Sx.cells:Sx→List PV
 | .mk kind value line col text kids=>[.sc (.int .i64 kind),.sc (.int .i64 value),.sc (.int .i64 line),.sc (.int .i64 col),sPV text,.imm 6 (Sx.rows kids)]
def Sx.rows:List Sx→List (List PV)
 |[]=>[]
 |k::ks=>k.cells::Sx.rows ks
end
theorem Sx.rows_map: ∀ l:List Sx,Sx.rows l=l.map Sx.cells
 |[]=>rfl
 |k::ks=>by simp[Sx.rows,Sx.rows_map ks]
theorem Sx.cells_len(e:Sx):e.cells.length=6:=by cases e;rfl
theorem Sx.rows_len(l:List Sx):(Sx.rows l).length=l.length:=by simp[Sx.rows_map]
theorem Sx.rows_get{l:List Sx}{i:Nat}{k:Sx}(h:l[i]? =some k):(Sx.rows l)[i]? =some k.cells:=by simp[Sx.rows_map,h]
theorem Sx.ind{C:Sx→Prop}(hC: ∀ kind value line col text kids,(∀ k∈kids,C k)→C (.mk kind value line col text kids)): ∀ e,C e
 | .mk kind value line col text kids=>hC kind value line col text kids fun k hk=>Sx.ind hC k
termination_by e=>SizeOf.sizeOf e
decreasing_by
 have:=List.sizeOf_lt_of_mem hk;simp only[Sx.mk.sizeOf_spec];omega
mutual
def Sx.ok:Sx→Prop
 | .mk kind value line col text kids=>(-9223372036854775808≤kind∧kind≤9223372036854775807)∧(-9223372036854775808≤value∧value≤9223372036854775807)∧text.size≤bigN∧kids.length≤bigN∧Sx.oks kids
def Sx.oks:List Sx→Prop
 |[]=>True
 |k::ks=>k.ok∧Sx.oks ks
end
theorem Sx.oks_iff:{l:List Sx}→(Sx.oks l↔ ∀ k∈l,k.ok)
 |[]=>by simp[Sx.oks]
 |k::ks=>by simp[Sx.oks,Sx.oks_iff (l:=ks)]
end Go.AM
namespace Go.Proofs.YtnldekadkjdbcaaGreat
open Go.AM
def digB(c:UInt8):Bool:=decide (48≤c.toNat)&&decide (c.toNat≤57)
def signs:List UInt8:=[45,95,63,58,60,62,61,43,42]
def wB(c:UInt8):Bool:=letB c||digB c||signs.contains c
def upB(c:UInt8):Bool:=decide (65≤c.toNat)&&decide (c.toNat≤90)
def lowB(c:UInt8):Option UInt8:=if upB c then some (c+32)else if wB c then some c else none
def lowL:List UInt8→Option (List UInt8)
 |[]=>some []
 |c::l=>match lowB c with
  |some d=>(lowL l).map (d::·)
  |none=>none
def lowS(s:ByteArray):ByteArray × Bool:=if 0<s.size∧s.size≤32 then(match lowL s.data.toList with|some l=>(⟨l.toArray⟩,true)|none=>(⟨#[]⟩,false))else(⟨#[]⟩,false)
def trimB(s:ByteArray):ByteArray:=match s.data.toList with
 |45::l=>⟨l.toArray⟩
 |_=>s
def numB(s:ByteArray):Bool:=(trimB s).data.toList.all digB&&decide (0<(trimB s).size)
def wordB(s:ByteArray):Bool:=(lowS s).2&&bEq (lowS s).1 s&&!(numB (lowS s).1)
mutual
def svalid:Sx→Nat→Nat→Bool × Nat
 | .mk kind value _ _ text kids,d,n=>
  if n+1>4096 then(false,n+1)
  else if kind=1 then(wordB text&&decide (value=0)&&kids.isEmpty,n+1)
  else if kind=2 then(bEq text ⟨#[]⟩&&kids.isEmpty&&decide (-1099511627776≤value)&&decide (value≤1099511627776),n+1)
  else if kind=3 then(if bEq text ⟨#[]⟩=true∧value=0∧d≠32 then svalids kids (d+1) (n+1)else(false,n+1))
  else(false,n+1)
def svalids:List Sx→Nat→Nat→Bool × Nat
 |[],_,n=>(true,n)
 |k::ks,d,n=>match svalid k d n with
  |(true,n')=>svalids ks d n'
  |(false,n')=>(false,n')
end
end Go.Proofs.YtnldekadkjdbcaaGreat
namespace Go.Proofs.YtnldekadkjdbcaaGreat
open Go.AM
set_option maxHeartbeats 2000000
set_option maxRecDepth 100000
def ext(f:FuncId)(args:List PV):Option PV:=if f=184 then(match args with|[.sc (.string s),.sc (.int .u8 c)]=>some (.sc (.int .i64 (firstIdx s c.toNat.toUInt8)))|_=>none)else none
theorem ixb_ok:(Tryz.f184.name== "runtime.NumGoroutine")=false∧Tryz.f184.body.isNone=true∧Extern.findNext Tryz.f184=none∧Extern.find Tryz.f184=some Extern.BytealgIndexByte.indexByte:=
 ⟨by kernel_rfl,by kernel_rfl,by kernel_rfl,by kernel_rfl⟩
end Go.Proofs.YtnldekadkjdbcaaGreat
namespace Go.Proofs.YtnldekadkjdbcaaGreat
open Go.AM
set_option maxHeartbeats 2000000
set_option maxRecDepth 20000
theorem PCall.quiet2{P:Program}{f:FuncId}{args:List PV}{h:Heap}{v u:Value}(hb:hasBody P f=true)(hc:PCall P f args h fun r h'=>r= .tup [.sc v,.sc u]∧Grow h h'):PCall P f args h fun r h'=>r= .tup [.sc v,.sc u]∧h'=h:=by
 refine pcall_wf hb fun hw=>PCall.drop (hc.mono ?_);rintro r h' ⟨rfl,g⟩;refine⟨.tup [.sc v,.sc u],h,⟨rfl,rfl⟩,by simp only[FrzTo,FrzL];exact⟨_,rfl,rfl,rfl,trivial⟩,Nat.le_refl _,fun id o ho=>?_⟩;have hid:=hw id (by rw[ho];try rfl);exact⟨by rw[g.old id hid];exact ho,hid,.inl ho⟩
theorem digit_c{h:Heap}{c:UInt8}:PCall Tryz.prog 169 [.sc (.int .u8 c.toNat)] h fun r h'=>r= .sc (.bool (digB c))∧h'=h:=by
 cases b1:decide ((c.toNat:Int)≥48)with
 |false=>
  have:digB c=false:=by simp at b1;simp[digB];omega
  refine pcall_body (ow:=fun _=>false) (wf:=fun _=>false) Ty.mixed Tryz.func169 rfl Ty.hb_169 (by rw[Tryz.ntmps169];simp) ?_;rw[Tryz.ntmps169,Tryz.results169];repeat'(first|refine a_seq fun K hK=>?_|(refine a_block ?_)|((first|refine a_regionS ?_|refine a_region (fun K hK=>?_)|refine a_ret ?_);simp(maxSteps:=2000000) only[Ty.w,simprocAttr,b1])|((first|refine a_skip ?_|refine a_exit ?_);try simp only[pst0,simprocAttr])|(refine a_cond _ (by(try simp(maxSteps:=2000000) only[Ty.w,simprocAttr,b1]);rfl) (fun hb=>?_) (fun hb=>?_)<;>(try simp only[hb0,decide_eq_true_eq,decide_eq_false_iff_not,simprocAttr]at hb)<;>(try(exfalso;omega)))|(with_reducible refine ite_in (fun hb=>?_) (fun hb=>?_)<;>(try simp only[Decidable.not_not]at hb)<;>(try simp only[hb,if_true,if_false,not_false_eq_true,not_true_eq_false, ↓reduceIte])<;>(try simp only[hb0,decide_eq_true_eq,decide_eq_false_iff_not,simprocAttr]at hb)<;>(try(exfalso;omega)))|((first|refine hK _ _ ?_|(clear hK;refine hK _ _ ?_)|(clear hK;clear hK;refine hK _ _ ?_)|(clear hK;clear hK;clear hK;refine hK _ _ ?_));clear hK;try simp only[pst0,simprocAttr])|(rw[if_pos];rotate_left 1;omega;simp(maxSteps:=2000000) only[Ty.w,simprocAttr,b1]))
  rw[this]
 |true=>
  have:digB c=decide ((c.toNat:Int)≤57):=by
   simp at b1;have e1:decide (48≤c.toNat)=true:=(by simp;omega);simp only[digB,e1,Bool.true_and];exact decide_eq_decide.2 (by omega)
  refine pcall_body (ow:=fun _=>false) (wf:=fun _=>false) Ty.mixed Tryz.func169 rfl Ty.hb_169 (by rw[Tryz.ntmps169];simp) ?_;rw[Tryz.ntmps169,Tryz.results169];repeat'(first|refine a_seq fun K hK=>?_|(refine a_block ?_)|((first|refine a_regionS ?_|refine a_region (fun K hK=>?_)|refine a_ret ?_);simp(maxSteps:=2000000) only[Ty.w,simprocAttr,b1])|((first|refine a_skip ?_|refine a_exit ?_);try simp only[pst0,simprocAttr])|(refine a_cond _ (by(try simp(maxSteps:=2000000) only[Ty.w,simprocAttr,b1]);rfl) (fun hb=>?_) (fun hb=>?_)<;>(try simp only[hb0,decide_eq_true_eq,decide_eq_false_iff_not,simprocAttr]at hb)<;>(try(exfalso;omega)))|(with_reducible refine ite_in (fun hb=>?_) (fun hb=>?_)<;>(try simp only[Decidable.not_not]at hb)<;>(try simp only[hb,if_true,if_false,not_false_eq_true,not_true_eq_false, ↓reduceIte])<;>(try simp only[hb0,decide_eq_true_eq,decide_eq_false_iff_not,simprocAttr]at hb)<;>(try(exfalso;omega)))|((first|refine hK _ _ ?_|(clear hK;refine hK _ _ ?_)|(clear hK;clear hK;refine hK _ _ ?_)|(clear hK;clear hK;clear hK;refine hK _ _ ?_));clear hK;try simp only[pst0,simprocAttr])|(rw[if_pos];rotate_left 1;omega;simp(maxSteps:=2000000) only[Ty.w,simprocAttr,b1]))
  rw[this]
theorem firstIdx_ge(s:ByteArray)(c:UInt8):decide (firstIdx s c≥0)=s.data.toList.contains c:=by
 unfold firstIdx;have hsl:s.data.toList.length=s.size:=by rw[Array.length_toList];try rfl
 have hget: ∀ i,i<s.size→s[i]! =s.data.toList[i]!:=by
  intro i hi;have h1:s[i]? =s.data.toList[i]?:=ba_get s i;rw[getElem!_def,getElem!_def,h1]
 cases hf:(List.range s.size).find? fun i=>s[i]! ==c with
 |none=>
  rw[List.find?_eq_none]at hf;have:s.data.toList.contains c=false:=by
   rw[Bool.eq_false_iff];intro hc;rw[List.contains_iff_mem]at hc;obtain⟨i,hi,he⟩:=List.getElem_of_mem hc;have h2:=hf i (by simp;omega);rw[hget i (by omega),getElem!_pos s.data.toList i hi,he]at h2;simp at h2
  rw[this];try rfl
 |some i=>
  have h1:=List.find?_some hf;have h2:=List.mem_of_find?_eq_some hf;simp at h2;have:s.data.toList.contains c=true:=by
   rw[List.contains_iff_mem];rw[hget i h2]at h1;rw[getElem!_pos s.data.toList i (by omega)]at h1;have:=beq_iff_eq.1 h1;rw[← this];exact List.getElem_mem _
  rw[this];simp
theorem indexByte_c{h:Heap}{s:ByteArray}{c:UInt8}:PCall Tryz.prog 170 [sPV s,.sc (.int .u8 c.toNat)] h fun r h'=>r= .sc (.int .i64 (firstIdx s c))∧h'=h:=by
 have hx:PCall Tryz.prog 184 [sPV s,.sc (.int .u8 c.toNat)] h fun r h'=>r= .sc (.int .i64 (firstIdx s c))∧h'=h:=by
  have:=pcall_indexByte (P:=Tryz.prog) Tryz.func184 ixb_ok.1 ixb_ok.2.1 ixb_ok.2.2.1 ixb_ok.2.2.2 s c.toNat h;simpa using this
 have hy:PCall Tryz.prog 162 [sPV s,.sc (.int .u8 c.toNat)] h fun r h'=>r= .sc (.int .i64 (firstIdx s c))∧h'=h:=by
  refine pcall_body (ow:=fun _=>false) (wf:=fun _=>false) Ty.mixed Tryz.func162 rfl Ty.hb_162 (by rw[Tryz.ntmps162];simp) ?_;rw[Tryz.ntmps162,Tryz.results162];repeat'(first|refine a_seq fun K hK=>?_|(refine a_block ?_)|((first|refine a_regionS ?_|refine a_region (fun K hK=>?_)|refine a_ret ?_);simp(maxSteps:=2000000) only[Ty.w,simprocAttr])|((first|refine a_skip ?_|refine a_exit ?_);try simp only[pst0,simprocAttr])|(refine a_cond _ (by(try simp(maxSteps:=2000000) only[Ty.w,simprocAttr]);rfl) (fun hb=>?_) (fun hb=>?_)<;>(try simp only[hb0,decide_eq_true_eq,decide_eq_false_iff_not,simprocAttr]at hb)<;>(try(exfalso;omega)))|(with_reducible refine ite_in (fun hb=>?_) (fun hb=>?_)<;>(try simp only[Decidable.not_not]at hb)<;>(try simp only[hb,if_true,if_false,not_false_eq_true,not_true_eq_false, ↓reduceIte])<;>(try simp only[hb0,decide_eq_true_eq,decide_eq_false_iff_not,simprocAttr]at hb)<;>(try(exfalso;omega)))|((first|refine hK _ _ ?_|(clear hK;refine hK _ _ ?_)|(clear hK;clear hK;refine hK _ _ ?_)|(clear hK;clear hK;clear hK;refine hK _ _ ?_));clear hK;try simp only[pst0,simprocAttr])|(rw[if_pos];rotate_left 1;omega;simp(maxSteps:=2000000) only[Ty.w,simprocAttr]))
  refine owp_useQ (hx) (by(try simp only[Ty.w,simprocAttr,]);try rfl) ?_;simp(maxSteps:=2000000) only[Ty.w,simprocAttr,];repeat'(first|refine a_seq fun K hK=>?_|(refine a_block ?_)|((first|refine a_regionS ?_|refine a_region (fun K hK=>?_)|refine a_ret ?_);simp(maxSteps:=2000000) only[Ty.w,simprocAttr])|((first|refine a_skip ?_|refine a_exit ?_);try simp only[pst0,simprocAttr])|(refine a_cond _ (by(try simp(maxSteps:=2000000) only[Ty.w,simprocAttr]);rfl) (fun hb=>?_) (fun hb=>?_)<;>(try simp only[hb0,decide_eq_true_eq,decide_eq_false_iff_not,simprocAttr]at hb)<;>(try(exfalso;omega)))|(with_reducible refine ite_in (fun hb=>?_) (fun hb=>?_)<;>(try simp only[Decidable.not_not]at hb)<;>(try simp only[hb,if_true,if_false,not_false_eq_true,not_true_eq_false, ↓reduceIte])<;>(try simp only[hb0,decide_eq_true_eq,decide_eq_false_iff_not,simprocAttr]at hb)<;>(try(exfalso;omega)))|((first|refine hK _ _ ?_|(clear hK;refine hK _ _ ?_)|(clear hK;clear hK;refine hK _ _ ?_)|(clear hK;clear hK;clear hK;refine hK _ _ ?_));clear hK;try simp only[pst0,simprocAttr])|(rw[if_pos];rotate_left 1;omega;simp(maxSteps:=2000000) only[Ty.w,simprocAttr]))
 refine pcall_body (ow:=fun _=>false) (wf:=fun _=>false) Ty.mixed Tryz.func170 rfl Ty.hb_170 (by rw[Tryz.ntmps170];simp) ?_;rw[Tryz.ntmps170,Tryz.results170];repeat'(first|refine a_seq fun K hK=>?_|(refine a_block ?_)|((first|refine a_regionS ?_|refine a_region (fun K hK=>?_)|refine a_ret ?_);simp(maxSteps:=2000000) only[Ty.w,simprocAttr])|((first|refine a_skip ?_|refine a_exit ?_);try simp only[pst0,simprocAttr])|(refine a_cond _ (by(try simp(maxSteps:=2000000) only[Ty.w,simprocAttr]);rfl) (fun hb=>?_) (fun hb=>?_)<;>(try simp only[hb0,decide_eq_true_eq,decide_eq_false_iff_not,simprocAttr]at hb)<;>(try(exfalso;omega)))|(with_reducible refine ite_in (fun hb=>?_) (fun hb=>?_)<;>(try simp only[Decidable.not_not]at hb)<;>(try simp only[hb,if_true,if_false,not_false_eq_true,not_true_eq_false, ↓reduceIte])<;>(try simp only[hb0,decide_eq_true_eq,decide_eq_false_iff_not,simprocAttr]at hb)<;>(try(exfalso;omega)))|((first|refine hK _ _ ?_|(clear hK;refine hK _ _ ?_)|(clear hK;clear hK;refine hK _ _ ?_)|(clear hK;clear hK;clear hK;refine hK _ _ ?_));clear hK;try simp only[pst0,simprocAttr])|(rw[if_pos];rotate_left 1;omega;simp(maxSteps:=2000000) only[Ty.w,simprocAttr]))
 refine owp_useQ (hy) (by(try simp only[Ty.w,simprocAttr,]);try rfl) ?_;simp(maxSteps:=2000000) only[Ty.w,simprocAttr,];repeat'(first|refine a_seq fun K hK=>?_|(refine a_block ?_)|((first|refine a_regionS ?_|refine a_region (fun K hK=>?_)|refine a_ret ?_);simp(maxSteps:=2000000) only[Ty.w,simprocAttr])|((first|refine a_skip ?_|refine a_exit ?_);try simp only[pst0,simprocAttr])|(refine a_cond _ (by(try simp(maxSteps:=2000000) only[Ty.w,simprocAttr]);rfl) (fun hb=>?_) (fun hb=>?_)<;>(try simp only[hb0,decide_eq_true_eq,decide_eq_false_iff_not,simprocAttr]at hb)<;>(try(exfalso;omega)))|(with_reducible refine ite_in (fun hb=>?_) (fun hb=>?_)<;>(try simp only[Decidable.not_not]at hb)<;>(try simp only[hb,if_true,if_false,not_false_eq_true,not_true_eq_false, ↓reduceIte])<;>(try simp only[hb0,decide_eq_true_eq,decide_eq_false_iff_not,simprocAttr]at hb)<;>(try(exfalso;omega)))|((first|refine hK _ _ ?_|(clear hK;refine hK _ _ ?_)|(clear hK;clear hK;refine hK _ _ ?_)|(clear hK;clear hK;clear hK;refine hK _ _ ?_));clear hK;try simp only[pst0,simprocAttr])|(rw[if_pos];rotate_left 1;omega;simp(maxSteps:=2000000) only[Ty.w,simprocAttr]))
theorem ba_ext{a b:ByteArray}(h:a.data.toList=b.data.toList):a=b:=by
 obtain⟨⟨a⟩⟩:=a;obtain⟨⟨b⟩⟩:=b;simp at h;rw[h]
theorem hasPrefix_c{h:Heap}{s:ByteArray}:PCall Tryz.prog 190 [sPV s,sPV ⟨#[45]⟩] h fun r h'=>r= .sc (.bool (match s.data.toList with|45::_=>true|_=>false))∧h'=h:=by
 have hsl:s.data.toList.length=s.size:=by rw[Array.length_toList];try rfl
 have h1:(ByteArray.mk #[45]).size=1:=rfl;cases b1:decide ((s.size:Int)≥1)with
 |false=>
  have:(match s.data.toList with|45::_=>true|_=>false)=false:=by
   simp at b1;have:s.data.toList=[]:=List.eq_nil_of_length_eq_zero (by omega);rw[this]
  refine pcall_body (ow:=fun _=>false) (wf:=fun _=>false) Ty.mixed Tryz.func190 rfl Ty.hb_190 (by rw[Tryz.ntmps190];simp) ?_;rw[Tryz.ntmps190,Tryz.results190];repeat'(first|refine a_seq fun K hK=>?_|(refine a_block ?_)|((first|refine a_regionS ?_|refine a_region (fun K hK=>?_)|refine a_ret ?_);simp(maxSteps:=2000000) only[Ty.w,simprocAttr,h1,Int.natCast_one,b1])|((first|refine a_skip ?_|refine a_exit ?_);try simp only[pst0,simprocAttr])|(refine a_cond _ (by(try simp(maxSteps:=2000000) only[Ty.w,simprocAttr,h1,Int.natCast_one,b1]);rfl) (fun hb=>?_) (fun hb=>?_)<;>(try simp only[hb0,decide_eq_true_eq,decide_eq_false_iff_not,simprocAttr]at hb)<;>(try(exfalso;omega)))|(with_reducible refine ite_in (fun hb=>?_) (fun hb=>?_)<;>(try simp only[Decidable.not_not]at hb)<;>(try simp only[hb,if_true,if_false,not_false_eq_true,not_true_eq_false, ↓reduceIte])<;>(try simp only[hb0,decide_eq_true_eq,decide_eq_false_iff_not,simprocAttr]at hb)<;>(try(exfalso;omega)))|((first|refine hK _ _ ?_|(clear hK;refine hK _ _ ?_)|(clear hK;clear hK;refine hK _ _ ?_)|(clear hK;clear hK;clear hK;refine hK _ _ ?_));clear hK;try simp only[pst0,simprocAttr])|(rw[if_pos];rotate_left 1;omega;simp(maxSteps:=2000000) only[Ty.w,simprocAttr,h1,Int.natCast_one,b1]))
  rw[this]
 |true=>
  have b1':=b1;simp at b1';have q1:(1:Int)≤(s.size:Int):=by omega
  have:(match s.data.toList with|45::_=>true|_=>false)=((s.extract 0 1).data.toList==(#[45]:Array UInt8).toList):=by
   have he:(s.extract 0 1).data.toList=s.data.toList.take 1:=(by simp);rw[he];cases hl:s.data.toList with
   |nil=>rw[hl]at hsl;simp at hsl;omega
   |cons c l=>
    simp only[List.take_succ_cons,List.take_zero];by_cases hc:c=45
    ·subst hc;rfl
    ·have:([c]==(#[45]:Array UInt8).toList)=false:=(by simp[hc]);rw[this];split
     ·rename_i heq;simp at heq;exact absurd heq.1 hc
     ·rfl
  refine pcall_body (ow:=fun _=>false) (wf:=fun _=>false) Ty.mixed Tryz.func190 rfl Ty.hb_190 (by rw[Tryz.ntmps190];simp) ?_;rw[Tryz.ntmps190,Tryz.results190];repeat'(first|refine a_seq fun K hK=>?_|(refine a_block ?_)|((first|refine a_regionS ?_|refine a_region (fun K hK=>?_)|refine a_ret ?_);simp(maxSteps:=2000000) only[Ty.w,simprocAttr,h1,Int.natCast_one,b1,q1,Option.getD_some,Option.getD_none,Int.le_refl,Int.toNat_one,Int.toNat_zero])|((first|refine a_skip ?_|refine a_exit ?_);try simp only[pst0,simprocAttr])|(refine a_cond _ (by(try simp(maxSteps:=2000000) only[Ty.w,simprocAttr,h1,Int.natCast_one,b1,q1,Option.getD_some,Option.getD_none,Int.le_refl,Int.toNat_one,Int.toNat_zero]);rfl) (fun hb=>?_) (fun hb=>?_)<;>(try simp only[hb0,decide_eq_true_eq,decide_eq_false_iff_not,simprocAttr]at hb)<;>(try(exfalso;omega)))|(with_reducible refine ite_in (fun hb=>?_) (fun hb=>?_)<;>(try simp only[Decidable.not_not]at hb)<;>(try simp only[hb,if_true,if_false,not_false_eq_true,not_true_eq_false, ↓reduceIte])<;>(try simp only[hb0,decide_eq_true_eq,decide_eq_false_iff_not,simprocAttr]at hb)<;>(try(exfalso;omega)))|((first|refine hK _ _ ?_|(clear hK;refine hK _ _ ?_)|(clear hK;clear hK;refine hK _ _ ?_)|(clear hK;clear hK;clear hK;refine hK _ _ ?_));clear hK;try simp only[pst0,simprocAttr])|(rw[if_pos];rotate_left 1;omega;simp(maxSteps:=2000000) only[Ty.w,simprocAttr,h1,Int.natCast_one,b1,q1,Option.getD_some,Option.getD_none,Int.le_refl,Int.toNat_one,Int.toNat_zero]))
  rw[this]
theorem trimPrefix_c{h:Heap}{s:ByteArray}:PCall Tryz.prog 171 [sPV s,sPV ⟨#[45]⟩] h fun r h'=>r=sPV (trimB s)∧h'=h:=by
 have hsl:s.data.toList.length=s.size:=by rw[Array.length_toList];try rfl
 have h1:(ByteArray.mk #[45]).size=1:=rfl;have hy:PCall Tryz.prog 188 [sPV s,sPV ⟨#[45]⟩] h fun r h'=>r=sPV (trimB s)∧h'=h:=by
  cases b1:(match s.data.toList with|45::_=>true|_=>false)with
  |false=>
   have:trimB s=s:=by
    unfold trimB;split
    ·rename_i heq;rw[heq]at b1;simp at b1
    ·rfl
   refine pcall_body (ow:=fun _=>false) (wf:=fun _=>false) Ty.mixed Tryz.func188 rfl Ty.hb_188 (by rw[Tryz.ntmps188];simp) ?_;rw[Tryz.ntmps188,Tryz.results188];(repeat'(first|refine a_seq fun K hK=>?_|(refine a_block ?_)|((first|refine a_regionS ?_|refine a_region (fun K hK=>?_)|refine a_ret ?_);simp(maxSteps:=2000000) only[Ty.w,simprocAttr])|((first|refine a_skip ?_|refine a_exit ?_);try simp only[pst0,simprocAttr])|(refine a_cond _ (by(try simp(maxSteps:=2000000) only[Ty.w,simprocAttr]);rfl) (fun hb=>?_) (fun hb=>?_)<;>(try simp only[hb0,decide_eq_true_eq,decide_eq_false_iff_not,simprocAttr]at hb)<;>(try(exfalso;omega)))|(with_reducible refine ite_in (fun hb=>?_) (fun hb=>?_)<;>(try simp only[Decidable.not_not]at hb)<;>(try simp only[hb,if_true,if_false,not_false_eq_true,not_true_eq_false, ↓reduceIte])<;>(try simp only[hb0,decide_eq_true_eq,decide_eq_false_iff_not,simprocAttr]at hb)<;>(try(exfalso;omega)))|((first|refine hK _ _ ?_|(clear hK;refine hK _ _ ?_)|(clear hK;clear hK;refine hK _ _ ?_)|(clear hK;clear hK;clear hK;refine hK _ _ ?_));clear hK;try simp only[pst0,simprocAttr])|(rw[if_pos];rotate_left 1;omega;simp(maxSteps:=2000000) only[Ty.w,simprocAttr])));refine owp_useQ (hasPrefix_c (s:=s)) (by(try simp only[Ty.w,simprocAttr,b1]);try rfl) ?_;simp(maxSteps:=2000000) only[Ty.w,simprocAttr,b1];(repeat'(first|refine a_seq fun K hK=>?_|(refine a_block ?_)|((first|refine a_regionS ?_|refine a_region (fun K hK=>?_)|refine a_ret ?_);simp(maxSteps:=2000000) only[Ty.w,simprocAttr,b1])|((first|refine a_skip ?_|refine a_exit ?_);try simp only[pst0,simprocAttr])|(refine a_cond _ (by(try simp(maxSteps:=2000000) only[Ty.w,simprocAttr,b1]);rfl) (fun hb=>?_) (fun hb=>?_)<;>(try simp only[hb0,decide_eq_true_eq,decide_eq_false_iff_not,simprocAttr]at hb)<;>(try(exfalso;omega)))|(with_reducible refine ite_in (fun hb=>?_) (fun hb=>?_)<;>(try simp only[Decidable.not_not]at hb)<;>(try simp only[hb,if_true,if_false,not_false_eq_true,not_true_eq_false, ↓reduceIte])<;>(try simp only[hb0,decide_eq_true_eq,decide_eq_false_iff_not,simprocAttr]at hb)<;>(try(exfalso;omega)))|((first|refine hK _ _ ?_|(clear hK;refine hK _ _ ?_)|(clear hK;clear hK;refine hK _ _ ?_)|(clear hK;clear hK;clear hK;refine hK _ _ ?_));clear hK;try simp only[pst0,simprocAttr])|(rw[if_pos];rotate_left 1;omega;simp(maxSteps:=2000000) only[Ty.w,simprocAttr,b1])));rw[this]
  |true=>
   have hq: ∃ l,s.data.toList=45::l:=by
    split at b1
    ·rename_i l heq;exact⟨l,heq⟩
    ·simp at b1
   obtain⟨l,hl⟩:=hq;have q1:(1:Int)≤(s.size:Int):=(by rw[hl]at hsl;simp at hsl;omega);have:trimB s=s.extract 1 s.size:=by
    unfold trimB;rw[hl];refine ba_ext ?_;have hl2:=hsl;rw[hl]at hl2;simp at hl2;simp only[ByteArray.data_extract,Array.toList_extract,List.extract_eq_take_drop,hl];rw[List.drop_succ_cons,List.drop_zero,List.take_of_length_le (by omega)]
   refine pcall_body (ow:=fun _=>false) (wf:=fun _=>false) Ty.mixed Tryz.func188 rfl Ty.hb_188 (by rw[Tryz.ntmps188];simp) ?_;rw[Tryz.ntmps188,Tryz.results188];(repeat'(first|refine a_seq fun K hK=>?_|(refine a_block ?_)|((first|refine a_regionS ?_|refine a_region (fun K hK=>?_)|refine a_ret ?_);simp(maxSteps:=2000000) only[Ty.w,simprocAttr])|((first|refine a_skip ?_|refine a_exit ?_);try simp only[pst0,simprocAttr])|(refine a_cond _ (by(try simp(maxSteps:=2000000) only[Ty.w,simprocAttr]);rfl) (fun hb=>?_) (fun hb=>?_)<;>(try simp only[hb0,decide_eq_true_eq,decide_eq_false_iff_not,simprocAttr]at hb)<;>(try(exfalso;omega)))|(with_reducible refine ite_in (fun hb=>?_) (fun hb=>?_)<;>(try simp only[Decidable.not_not]at hb)<;>(try simp only[hb,if_true,if_false,not_false_eq_true,not_true_eq_false, ↓reduceIte])<;>(try simp only[hb0,decide_eq_true_eq,decide_eq_false_iff_not,simprocAttr]at hb)<;>(try(exfalso;omega)))|((first|refine hK _ _ ?_|(clear hK;refine hK _ _ ?_)|(clear hK;clear hK;refine hK _ _ ?_)|(clear hK;clear hK;clear hK;refine hK _ _ ?_));clear hK;try simp only[pst0,simprocAttr])|(rw[if_pos];rotate_left 1;omega;simp(maxSteps:=2000000) only[Ty.w,simprocAttr])));refine owp_useQ (hasPrefix_c (s:=s)) (by(try simp only[Ty.w,simprocAttr,b1]);try rfl) ?_;simp(maxSteps:=2000000) only[Ty.w,simprocAttr,b1];(repeat'(first|refine a_seq fun K hK=>?_|(refine a_block ?_)|((first|refine a_regionS ?_|refine a_region (fun K hK=>?_)|refine a_ret ?_);simp(maxSteps:=2000000) only[Ty.w,simprocAttr,b1,h1,Int.natCast_one,q1,Option.getD_some,Option.getD_none,Int.le_refl,Int.toNat_one])|((first|refine a_skip ?_|refine a_exit ?_);try simp only[pst0,simprocAttr])|(refine a_cond _ (by(try simp(maxSteps:=2000000) only[Ty.w,simprocAttr,b1,h1,Int.natCast_one,q1,Option.getD_some,Option.getD_none,Int.le_refl,Int.toNat_one]);rfl) (fun hb=>?_) (fun hb=>?_)<;>(try simp only[hb0,decide_eq_true_eq,decide_eq_false_iff_not,simprocAttr]at hb)<;>(try(exfalso;omega)))|(with_reducible refine ite_in (fun hb=>?_) (fun hb=>?_)<;>(try simp only[Decidable.not_not]at hb)<;>(try simp only[hb,if_true,if_false,not_false_eq_true,not_true_eq_false, ↓reduceIte])<;>(try simp only[hb0,decide_eq_true_eq,decide_eq_false_iff_not,simprocAttr]at hb)<;>(try(exfalso;omega)))|((first|refine hK _ _ ?_|(clear hK;refine hK _ _ ?_)|(clear hK;clear hK;refine hK _ _ ?_)|(clear hK;clear hK;clear hK;refine hK _ _ ?_));clear hK;try simp only[pst0,simprocAttr])|(rw[if_pos];rotate_left 1;omega;simp(maxSteps:=2000000) only[Ty.w,simprocAttr,b1,h1,Int.natCast_one,q1,Option.getD_some,Option.getD_none,Int.le_refl,Int.toNat_one])));rw[this]
 refine pcall_body (ow:=fun _=>false) (wf:=fun _=>false) Ty.mixed Tryz.func171 rfl Ty.hb_171 (by rw[Tryz.ntmps171];simp) ?_;rw[Tryz.ntmps171,Tryz.results171];repeat'(first|refine a_seq fun K hK=>?_|(refine a_block ?_)|((first|refine a_regionS ?_|refine a_region (fun K hK=>?_)|refine a_ret ?_);simp(maxSteps:=2000000) only[Ty.w,simprocAttr])|((first|refine a_skip ?_|refine a_exit ?_);try simp only[pst0,simprocAttr])|(refine a_cond _ (by(try simp(maxSteps:=2000000) only[Ty.w,simprocAttr]);rfl) (fun hb=>?_) (fun hb=>?_)<;>(try simp only[hb0,decide_eq_true_eq,decide_eq_false_iff_not,simprocAttr]at hb)<;>(try(exfalso;omega)))|(with_reducible refine ite_in (fun hb=>?_) (fun hb=>?_)<;>(try simp only[Decidable.not_not]at hb)<;>(try simp only[hb,if_true,if_false,not_false_eq_true,not_true_eq_false, ↓reduceIte])<;>(try simp only[hb0,decide_eq_true_eq,decide_eq_false_iff_not,simprocAttr]at hb)<;>(try(exfalso;omega)))|((first|refine hK _ _ ?_|(clear hK;refine hK _ _ ?_)|(clear hK;clear hK;refine hK _ _ ?_)|(clear hK;clear hK;clear hK;refine hK _ _ ?_));clear hK;try simp only[pst0,simprocAttr])|(rw[if_pos];rotate_left 1;omega;simp(maxSteps:=2000000) only[Ty.w,simprocAttr]))
 refine owp_useQ (hy) (by(try simp only[Ty.w,simprocAttr,]);try rfl) ?_;simp(maxSteps:=2000000) only[Ty.w,simprocAttr,];repeat'(first|refine a_seq fun K hK=>?_|(refine a_block ?_)|((first|refine a_regionS ?_|refine a_region (fun K hK=>?_)|refine a_ret ?_);simp(maxSteps:=2000000) only[Ty.w,simprocAttr])|((first|refine a_skip ?_|refine a_exit ?_);try simp only[pst0,simprocAttr])|(refine a_cond _ (by(try simp(maxSteps:=2000000) only[Ty.w,simprocAttr]);rfl) (fun hb=>?_) (fun hb=>?_)<;>(try simp only[hb0,decide_eq_true_eq,decide_eq_false_iff_not,simprocAttr]at hb)<;>(try(exfalso;omega)))|(with_reducible refine ite_in (fun hb=>?_) (fun hb=>?_)<;>(try simp only[Decidable.not_not]at hb)<;>(try simp only[hb,if_true,if_false,not_false_eq_true,not_true_eq_false, ↓reduceIte])<;>(try simp only[hb0,decide_eq_true_eq,decide_eq_false_iff_not,simprocAttr]at hb)<;>(try(exfalso;omega)))|((first|refine hK _ _ ?_|(clear hK;refine hK _ _ ?_)|(clear hK;clear hK;refine hK _ _ ?_)|(clear hK;clear hK;clear hK;refine hK _ _ ?_));clear hK;try simp only[pst0,simprocAttr])|(rw[if_pos];rotate_left 1;omega;simp(maxSteps:=2000000) only[Ty.w,simprocAttr]))
theorem numeric_c{h:Heap}{s:ByteArray}(hs:s.size≤bigN):PCall Tryz.prog 144 [sPV s] h fun r h'=>r= .sc (.bool (numB s))∧h'=h:=by
 have htl:(trimB s).data.toList.length=(trimB s).size:=by rw[Array.length_toList];try rfl
 have hts:(trimB s).size≤bigN:=by
  have hsl:s.data.toList.length=s.size:=by rw[Array.length_toList];try rfl
  unfold trimB;split
  ·rename_i l heq;rw[heq]at hsl;have:(ByteArray.mk l.toArray).size=l.length:=(by simp[ByteArray.size]);simp at hsl;omega
  ·exact hs
 unfold bigN at hts;have hN:numB s=((trimB s).data.toList.all digB&&decide (0<(trimB s).size)):=rfl;have ht:PCall Tryz.prog 171 [sPV s,sPV ⟨#[45]⟩] h fun r h'=>r=sPV (trimB s)∧h'=h:=trimPrefix_c;generalize trimB s=u at htl hts hN ht;rw[hN];clear hN;refine pcall_body (ow:=fun _=>false) (wf:=fun _=>false) Ty.mixed Tryz.func144 rfl Ty.hb_144 (by rw[Tryz.ntmps144];simp) ?_;rw[Tryz.ntmps144,Tryz.results144];repeat'(first|refine a_seq fun K hK=>?_|(refine a_block ?_)|((first|refine a_regionS ?_|refine a_region (fun K hK=>?_)|refine a_ret ?_);simp(maxSteps:=2000000) only[Ty.w,simprocAttr])|((first|refine a_skip ?_|refine a_exit ?_);try simp only[pst0,simprocAttr])|(refine a_cond _ (by(try simp(maxSteps:=2000000) only[Ty.w,simprocAttr]);rfl) (fun hb=>?_) (fun hb=>?_)<;>(try simp only[hb0,decide_eq_true_eq,decide_eq_false_iff_not,simprocAttr]at hb)<;>(try(exfalso;omega)))|(with_reducible refine ite_in (fun hb=>?_) (fun hb=>?_)<;>(try simp only[Decidable.not_not]at hb)<;>(try simp only[hb,if_true,if_false,not_false_eq_true,not_true_eq_false, ↓reduceIte])<;>(try simp only[hb0,decide_eq_true_eq,decide_eq_false_iff_not,simprocAttr]at hb)<;>(try(exfalso;omega)))|((first|refine hK _ _ ?_|(clear hK;refine hK _ _ ?_)|(clear hK;clear hK;refine hK _ _ ?_)|(clear hK;clear hK;clear hK;refine hK _ _ ?_));clear hK;try simp only[pst0,simprocAttr])|(rw[if_pos];rotate_left 1;omega;simp(maxSteps:=2000000) only[Ty.w,simprocAttr]))
 refine owp_useQ (ht) (by(try simp only[Ty.w,simprocAttr,]);try rfl) ?_;simp(maxSteps:=2000000) only[Ty.w,simprocAttr,];repeat'(first|refine a_seq fun K hK=>?_|(refine a_block ?_)|((first|refine a_regionS ?_|refine a_region (fun K hK=>?_)|refine a_ret ?_);simp(maxSteps:=2000000) only[Ty.w,simprocAttr])|((first|refine a_skip ?_|refine a_exit ?_);try simp only[pst0,simprocAttr])|(refine a_cond _ (by(try simp(maxSteps:=2000000) only[Ty.w,simprocAttr]);rfl) (fun hb=>?_) (fun hb=>?_)<;>(try simp only[hb0,decide_eq_true_eq,decide_eq_false_iff_not,simprocAttr]at hb)<;>(try(exfalso;omega)))|(with_reducible refine ite_in (fun hb=>?_) (fun hb=>?_)<;>(try simp only[Decidable.not_not]at hb)<;>(try simp only[hb,if_true,if_false,not_false_eq_true,not_true_eq_false, ↓reduceIte])<;>(try simp only[hb0,decide_eq_true_eq,decide_eq_false_iff_not,simprocAttr]at hb)<;>(try(exfalso;omega)))|((first|refine hK _ _ ?_|(clear hK;refine hK _ _ ?_)|(clear hK;clear hK;refine hK _ _ ?_)|(clear hK;clear hK;clear hK;refine hK _ _ ?_));clear hK;try simp only[pst0,simprocAttr])|(rw[if_pos];rotate_left 1;omega;simp(maxSteps:=2000000) only[Ty.w,simprocAttr]))
 refine a_loop (fun m S h'=>h'=h∧S 0=sPV u∧S 7= .sc (.int .i64 u.size)∧ ∃ k:Nat,S 8= .sc (.int .i64 k)∧k≤u.size∧m=u.size-k∧ ∀ (i:Nat)(c:UInt8),i<k→u.data.toList[i]? =some c→digB c=true) u.size ?_ ?_
 ·simp only[Ty.w,simprocAttr];exact⟨0,rfl,by omega,rfl,by omega⟩
 ·rintro m S h' ⟨rfl,g0,g7,k,g8,hk,rfl,hall⟩;by_cases hlt:k<u.size
  ·have hd:decide ((k:Int)<(u.size:Int))=true:=(by simp;omega);have w7:IntKind.i64.wrap ((k:Int)+1)=k+1:=(by rw[wrap64 (by omega) (by omega)]);obtain⟨c,hx⟩: ∃ c,u.data.toList[k]? =some c:=⟨_,List.getElem?_eq_getElem (by omega)⟩;have hr:u[k]? =some c:=(by rw[ba_get];exact hx);cases hg:digB c with
   |false=>
    have:u.data.toList.all digB=false:=(by rw[List.all_eq_false];exact⟨c,List.mem_of_getElem? hx,by simp[hg]⟩);(repeat'(first|refine a_seq fun K hK=>?_|(refine a_block ?_)|((first|refine a_regionS ?_|refine a_region (fun K hK=>?_)|refine a_ret ?_);simp(maxSteps:=2000000) only[Ty.w,simprocAttr,g0,g7,g8,hd,hr])|((first|refine a_skip ?_|refine a_exit ?_);try simp only[pst0,simprocAttr])|(refine a_cond _ (by(try simp(maxSteps:=2000000) only[Ty.w,simprocAttr,g0,g7,g8,hd,hr]);rfl) (fun hb=>?_) (fun hb=>?_)<;>(try simp only[hb0,decide_eq_true_eq,decide_eq_false_iff_not,simprocAttr]at hb)<;>(try(exfalso;omega)))|(with_reducible refine ite_in (fun hb=>?_) (fun hb=>?_)<;>(try simp only[Decidable.not_not]at hb)<;>(try simp only[hb,if_true,if_false,not_false_eq_true,not_true_eq_false, ↓reduceIte])<;>(try simp only[hb0,decide_eq_true_eq,decide_eq_false_iff_not,simprocAttr]at hb)<;>(try(exfalso;omega)))|((first|refine hK _ _ ?_|(clear hK;refine hK _ _ ?_)|(clear hK;clear hK;refine hK _ _ ?_)|(clear hK;clear hK;clear hK;refine hK _ _ ?_));clear hK;try simp only[pst0,simprocAttr])|(rw[if_pos];rotate_left 1;omega;simp(maxSteps:=2000000) only[Ty.w,simprocAttr,g0,g7,g8,hd,hr])));refine owp_useQ (digit_c (c:=c)) (by(try simp only[Ty.w,simprocAttr,g0,g7,g8,hd,hr,hg]);try rfl) ?_;simp(maxSteps:=2000000) only[Ty.w,simprocAttr,g0,g7,g8,hd,hr,hg];(repeat'(first|refine a_seq fun K hK=>?_|(refine a_block ?_)|((first|refine a_regionS ?_|refine a_region (fun K hK=>?_)|refine a_ret ?_);simp(maxSteps:=2000000) only[Ty.w,simprocAttr,hg,Bool.not_false])|((first|refine a_skip ?_|refine a_exit ?_);try simp only[pst0,simprocAttr])|(refine a_cond _ (by(try simp(maxSteps:=2000000) only[Ty.w,simprocAttr,hg,Bool.not_false]);rfl) (fun hb=>?_) (fun hb=>?_)<;>(try simp only[hb0,decide_eq_true_eq,decide_eq_false_iff_not,simprocAttr]at hb)<;>(try(exfalso;omega)))|(with_reducible refine ite_in (fun hb=>?_) (fun hb=>?_)<;>(try simp only[Decidable.not_not]at hb)<;>(try simp only[hb,if_true,if_false,not_false_eq_true,not_true_eq_false, ↓reduceIte])<;>(try simp only[hb0,decide_eq_true_eq,decide_eq_false_iff_not,simprocAttr]at hb)<;>(try(exfalso;omega)))|((first|refine hK _ _ ?_|(clear hK;refine hK _ _ ?_)|(clear hK;clear hK;refine hK _ _ ?_)|(clear hK;clear hK;clear hK;refine hK _ _ ?_));clear hK;try simp only[pst0,simprocAttr])|(rw[if_pos];rotate_left 1;omega;simp(maxSteps:=2000000) only[Ty.w,simprocAttr,hg,Bool.not_false])));rw[this];try rfl
   |true=>
    (repeat'(first|refine a_seq fun K hK=>?_|(refine a_block ?_)|((first|refine a_regionS ?_|refine a_region (fun K hK=>?_)|refine a_ret ?_);simp(maxSteps:=2000000) only[Ty.w,simprocAttr,g0,g7,g8,hd,hr])|((first|refine a_skip ?_|refine a_exit ?_);try simp only[pst0,simprocAttr])|(refine a_cond _ (by(try simp(maxSteps:=2000000) only[Ty.w,simprocAttr,g0,g7,g8,hd,hr]);rfl) (fun hb=>?_) (fun hb=>?_)<;>(try simp only[hb0,decide_eq_true_eq,decide_eq_false_iff_not,simprocAttr]at hb)<;>(try(exfalso;omega)))|(with_reducible refine ite_in (fun hb=>?_) (fun hb=>?_)<;>(try simp only[Decidable.not_not]at hb)<;>(try simp only[hb,if_true,if_false,not_false_eq_true,not_true_eq_false, ↓reduceIte])<;>(try simp only[hb0,decide_eq_true_eq,decide_eq_false_iff_not,simprocAttr]at hb)<;>(try(exfalso;omega)))|((first|refine hK _ _ ?_|(clear hK;refine hK _ _ ?_)|(clear hK;clear hK;refine hK _ _ ?_)|(clear hK;clear hK;clear hK;refine hK _ _ ?_));clear hK;try simp only[pst0,simprocAttr])|(rw[if_pos];rotate_left 1;omega;simp(maxSteps:=2000000) only[Ty.w,simprocAttr,g0,g7,g8,hd,hr])));refine owp_useQ (digit_c (c:=c)) (by(try simp only[Ty.w,simprocAttr,g0,g7,g8,hd,hr,hg]);try rfl) ?_;simp(maxSteps:=2000000) only[Ty.w,simprocAttr,g0,g7,g8,hd,hr,hg];(repeat'(first|refine a_seq fun K hK=>?_|(refine a_block ?_)|((first|refine a_regionS ?_|refine a_region (fun K hK=>?_)|refine a_ret ?_);simp(maxSteps:=2000000) only[Ty.w,simprocAttr,g0,g7,g8,hg,w7,Bool.not_true])|((first|refine a_skip ?_|refine a_exit ?_);try simp only[pst0,simprocAttr])|(refine a_cond _ (by(try simp(maxSteps:=2000000) only[Ty.w,simprocAttr,g0,g7,g8,hg,w7,Bool.not_true]);rfl) (fun hb=>?_) (fun hb=>?_)<;>(try simp only[hb0,decide_eq_true_eq,decide_eq_false_iff_not,simprocAttr]at hb)<;>(try(exfalso;omega)))|(with_reducible refine ite_in (fun hb=>?_) (fun hb=>?_)<;>(try simp only[Decidable.not_not]at hb)<;>(try simp only[hb,if_true,if_false,not_false_eq_true,not_true_eq_false, ↓reduceIte])<;>(try simp only[hb0,decide_eq_true_eq,decide_eq_false_iff_not,simprocAttr]at hb)<;>(try(exfalso;omega)))|((first|refine hK _ _ ?_|(clear hK;refine hK _ _ ?_)|(clear hK;clear hK;refine hK _ _ ?_)|(clear hK;clear hK;clear hK;refine hK _ _ ?_));clear hK;try simp only[pst0,simprocAttr])|(rw[if_pos];rotate_left 1;omega;simp(maxSteps:=2000000) only[Ty.w,simprocAttr,g0,g7,g8,hg,w7,Bool.not_true])));refine⟨u.size-(k+1),by omega,k+1,by simp,by omega,rfl,fun i c2 hi hw=>?_⟩;by_cases hik:i=k
    ·subst hik;rw[hx]at hw;simp at hw;rw[← hw];exact hg
    ·exact hall i c2 (by omega) hw
  ·have hd:decide ((k:Int)<(u.size:Int))=false:=(by simp;omega);have hok:u.data.toList.all digB=true:=by
    rw[List.all_eq_true];intro c hc;obtain⟨i,hi⟩:=List.getElem?_of_mem hc;exact hall i c (by have:=(List.getElem?_eq_some_iff.1 hi).1;omega) hi
   have e1:decide (0<u.size)=!(u.data.toList==(#[]:Array UInt8).toList):=by
    rw[← htl];cases u.data.toList<;>simp
   clear hall;(repeat'(first|refine a_seq fun K hK=>?_|(refine a_block ?_)|((first|refine a_regionS ?_|refine a_region (fun K hK=>?_)|refine a_ret ?_);simp(maxSteps:=2000000) only[Ty.w,simprocAttr,g0,g7,g8,hd])|((first|refine a_skip ?_|refine a_exit ?_);try simp only[pst0,simprocAttr])|(refine a_cond _ (by(try simp(maxSteps:=2000000) only[Ty.w,simprocAttr,g0,g7,g8,hd]);rfl) (fun hb=>?_) (fun hb=>?_)<;>(try simp only[hb0,decide_eq_true_eq,decide_eq_false_iff_not,simprocAttr]at hb)<;>(try(exfalso;omega)))|(with_reducible refine ite_in (fun hb=>?_) (fun hb=>?_)<;>(try simp only[Decidable.not_not]at hb)<;>(try simp only[hb,if_true,if_false,not_false_eq_true,not_true_eq_false, ↓reduceIte])<;>(try simp only[hb0,decide_eq_true_eq,decide_eq_false_iff_not,simprocAttr]at hb)<;>(try(exfalso;omega)))|((first|refine hK _ _ ?_|(clear hK;refine hK _ _ ?_)|(clear hK;clear hK;refine hK _ _ ?_)|(clear hK;clear hK;clear hK;refine hK _ _ ?_));clear hK;try simp only[pst0,simprocAttr])|(rw[if_pos];rotate_left 1;omega;simp(maxSteps:=2000000) only[Ty.w,simprocAttr,g0,g7,g8,hd])));rw[hok,e1];try rfl
end Go.Proofs.YtnldekadkjdbcaaGreat
namespace Go.Proofs.YtnldekadkjdbcaaGreat
open Go.AM
set_option maxHeartbeats 2000000
set_option maxRecDepth 20000
theorem lowL_none{l:List UInt8}{k:Nat}{c:UInt8}(h:l[k]? =some c)(hc:lowB c=none):lowL l=none:=by
 induction l generalizing k with
 |nil=>simp at h
 |cons d l ih=>
  simp only[lowL];cases k with
  |zero=>simp at h;subst h;rw[hc]
  |succ k=>
   simp at h;rw[ih h];cases lowB d<;>simp
theorem lowL_take{l p:List UInt8}{k:Nat}{c d:UInt8}(h:l[k]? =some c)(hc:lowB c=some d)(hp:lowL (l.take k)=some p):lowL (l.take (k+1))=some (p++[d]):=by
 induction l generalizing k p with
 |nil=>simp at h
 |cons e l ih=>
  cases k with
  |zero=>simp at h;subst h;simp[lowL]at hp;subst hp;simp[lowL,hc]
  |succ k=>
   simp at h;simp only[List.take_succ_cons,lowL]at hp⊢;cases he:lowB e with
   |none=>simp[he]at hp
   |some e'=>
    rw[he]at hp;cases hq:lowL (l.take k)with
    |none=>simp[hq]at hp
    |some p'=>
     simp[hq]at hp;subst hp;rw[ih h hq];simp
theorem lowL_len{l p:List UInt8}(h:lowL l=some p):p.length=l.length:=by
 induction l generalizing p with
 |nil=>simp[lowL]at h;subst h;rfl
 |cons e l ih=>
  simp only[lowL]at h;split at h
  ·cases hq:lowL l with
   |none=>simp[hq]at h
   |some p'=>simp[hq]at h;subst h;simp[ih hq]
  ·simp at h
theorem bytesR_len(l:List UInt8):(bytesR l).length=l.length:=by simp[bytesR]
theorem bytesR_get{l:List UInt8}{k:Nat}{c:UInt8}(h:l[k]? =some c):(bytesR l)[k]? =some [.sc (.int .u8 c.toNat)]:=by simp[bytesR,h]
theorem bytesR_set(l:List UInt8)(k:Nat)(c:UInt8):(bytesR l).set k [.sc (.int .u8 c.toNat)]=bytesR (l.set k c):=by simp[bytesR,List.map_set]
structure LowI(h:Heap)(l:List UInt8)(k:Nat)(h':Heap):Prop where
 grow:Grow h h'
 ex: ∃ p,lowL (l.take k)=some p∧h'.obj h.next=some (.arr 1 (bytesR (p++l.drop k)))
theorem LowI.keep{h h':Heap}{l:List UInt8}{k:Nat}{c:UInt8}(i:LowI h l k h')(hc:l[k]? =some c)(hl:lowB c=some c):LowI h l (k+1) h':=by
 obtain⟨p,hp,ho⟩:=i.ex;refine⟨i.grow,p++[c],lowL_take hc hl hp,?_⟩;rw[ho];obtain⟨hk,rfl⟩:=List.getElem?_eq_some_iff.1 hc;rw[List.drop_eq_getElem_cons hk];simp
theorem LowI.put{h h':Heap}{l:List UInt8}{k:Nat}{c d:UInt8}{rows:List (List PV)}(i:LowI h l k h')(hc:l[k]? =some c)(hl:lowB c=some d)(hr:h'.obj h.next=some (.arr 1 rows)):
  LowI h l (k+1) (h'.set h.next (.arr 1 (rows.set k [.sc (.int .u8 d.toNat)]))):=by
 obtain⟨p,hp,ho⟩:=i.ex;refine⟨i.grow.set (Nat.le_refl _) _,p++[d],lowL_take hc hl hp,?_⟩;rw[ho]at hr;simp at hr;subst hr;have hpl:=lowL_len hp;obtain⟨hk,rfl⟩:=List.getElem?_eq_some_iff.1 hc;simp only[Heap.set,if_true,bytesR_set];rw[List.length_take]at hpl;rw[List.set_append_right _ _ (by omega),List.drop_eq_getElem_cons hk,show k-p.length=0 by omega,List.set_cons_zero];simp
theorem u8w(x:Int)(h0:0≤x)(h1:x<256):IntKind.u8.wrap x=x:=by
 unfold IntKind.wrap;simp[IntKind.signed,IntKind.bits];omega
theorem byte_cls5(c:UInt8):
  (upB c=false∧letB c=false∧decide ((c.toNat:Int)≥65)=false∧decide ((c.toNat:Int)≥97)=false)∨
  (upB c=true∧decide ((c.toNat:Int)≥65)=true∧decide ((c.toNat:Int)≤90)=true)∨
  (upB c=false∧letB c=false∧decide ((c.toNat:Int)≥65)=true∧decide ((c.toNat:Int)≤90)=false∧decide ((c.toNat:Int)≥97)=false)∨
  (upB c=false∧letB c=true∧decide ((c.toNat:Int)≥65)=true∧decide ((c.toNat:Int)≤90)=false∧decide ((c.toNat:Int)≥97)=true∧decide ((c.toNat:Int)≤122)=true)∨
  (upB c=false∧letB c=false∧decide ((c.toNat:Int)≥65)=true∧decide ((c.toNat:Int)≤90)=false∧decide ((c.toNat:Int)≥97)=true∧decide ((c.toNat:Int)≤122)=false):=by
 simp only[upB,letB,Bool.and_eq_true,Bool.and_eq_false_iff,decide_eq_true_eq,decide_eq_false_iff_not];omega
theorem lower_c{h:Heap}{s:ByteArray}:PCall Tryz.prog 143 [sPV s] h fun r h'=>r= .tup [sPV (lowS s).1,.sc (.bool (lowS s).2)]∧h'=h:=by
 have hsl:s.data.toList.length=s.size:=by rw[Array.length_toList];try rfl
 refine PCall.quiet2 Ty.hb_143 ?_;cases b1:(s.data.toList==(#[]:Array UInt8).toList)with
 |true=>
  have:lowS s=(⟨#[]⟩,false):=by
   unfold lowS;rw[if_neg];have:s.data.toList=[]:=(by simpa using b1);rw[this]at hsl;simp at hsl;omega
  refine pcall_body (ow:=fun _=>false) (wf:=fun _=>false) Ty.mixed Tryz.func143 rfl Ty.hb_143 (by rw[Tryz.ntmps143];simp) ?_;rw[Tryz.ntmps143,Tryz.results143];repeat'(first|refine a_seq fun K hK=>?_|(refine a_block ?_)|((first|refine a_regionS ?_|refine a_region (fun K hK=>?_)|refine a_ret ?_);simp(maxSteps:=2000000) only[Ty.w,simprocAttr,b1])|((first|refine a_skip ?_|refine a_exit ?_);try simp only[pst0,simprocAttr])|(refine a_cond _ (by(try simp(maxSteps:=2000000) only[Ty.w,simprocAttr,b1]);rfl) (fun hb=>?_) (fun hb=>?_)<;>(try simp only[hb0,decide_eq_true_eq,decide_eq_false_iff_not,simprocAttr]at hb)<;>(try(exfalso;omega)))|(with_reducible refine ite_in (fun hb=>?_) (fun hb=>?_)<;>(try simp only[Decidable.not_not]at hb)<;>(try simp only[hb,if_true,if_false,not_false_eq_true,not_true_eq_false, ↓reduceIte])<;>(try simp only[hb0,decide_eq_true_eq,decide_eq_false_iff_not,simprocAttr]at hb)<;>(try(exfalso;omega)))|((first|refine hK _ _ ?_|(clear hK;refine hK _ _ ?_)|(clear hK;clear hK;refine hK _ _ ?_)|(clear hK;clear hK;clear hK;refine hK _ _ ?_));clear hK;try simp only[pst0,simprocAttr])|(rw[if_pos];rotate_left 1;omega;simp(maxSteps:=2000000) only[Ty.w,simprocAttr,b1]))
  rw[this];exact⟨rfl,Grow.refl _⟩
 |false=>
  have hpos:0<s.size:=by
   rcases Nat.eq_zero_or_pos s.size with h0|h0
   ·rw [h0]at hsl;have:=List.eq_nil_of_length_eq_zero hsl;rw[this]at b1;simp at b1
   ·exact h0
  cases b2:decide ((s.size:Int)>32)with
  |true=>
   have:lowS s=(⟨#[]⟩,false):=by
    unfold lowS;rw[if_neg];simp at b2;omega
   refine pcall_body (ow:=fun _=>false) (wf:=fun _=>false) Ty.mixed Tryz.func143 rfl Ty.hb_143 (by rw[Tryz.ntmps143];simp) ?_;rw[Tryz.ntmps143,Tryz.results143];(repeat'(first|refine a_seq fun K hK=>?_|(refine a_block ?_)|((first|refine a_regionS ?_|refine a_region (fun K hK=>?_)|refine a_ret ?_);simp(maxSteps:=2000000) only[Ty.w,simprocAttr,b1,b2])|((first|refine a_skip ?_|refine a_exit ?_);try simp only[pst0,simprocAttr])|(refine a_cond _ (by(try simp(maxSteps:=2000000) only[Ty.w,simprocAttr,b1,b2]);rfl) (fun hb=>?_) (fun hb=>?_)<;>(try simp only[hb0,decide_eq_true_eq,decide_eq_false_iff_not,simprocAttr]at hb)<;>(try(exfalso;omega)))|(with_reducible refine ite_in (fun hb=>?_) (fun hb=>?_)<;>(try simp only[Decidable.not_not]at hb)<;>(try simp only[hb,if_true,if_false,not_false_eq_true,not_true_eq_false, ↓reduceIte])<;>(try simp only[hb0,decide_eq_true_eq,decide_eq_false_iff_not,simprocAttr]at hb)<;>(try(exfalso;omega)))|((first|refine hK _ _ ?_|(clear hK;refine hK _ _ ?_)|(clear hK;clear hK;refine hK _ _ ?_)|(clear hK;clear hK;clear hK;refine hK _ _ ?_));clear hK;try simp only[pst0,simprocAttr])|(rw[if_pos];rotate_left 1;omega;simp(maxSteps:=2000000) only[Ty.w,simprocAttr,b1,b2])));rw[this];exact⟨rfl,Grow.refl _⟩
  |false=>
   have h32:s.size≤32:=(by simp at b2;omega);have hsz:s.size≤140737488355328:=(by omega);have hS:lowS s=(match lowL s.data.toList with|some l=>(⟨l.toArray⟩,true)|none=>(⟨#[]⟩,false)):=(by unfold lowS;rw[if_pos ⟨hpos,h32⟩];try rfl);refine pcall_body (ow:=fun t=>t==15) (wf:=fun _=>false) Ty.mixed Tryz.func143 rfl Ty.hb_143 (by rw[Tryz.ntmps143];simp) ?_;rw[Tryz.ntmps143,Tryz.results143];(repeat'(first|refine a_seq fun K hK=>?_|(refine a_block ?_)|((first|refine a_regionS ?_|refine a_region (fun K hK=>?_)|refine a_ret ?_);simp(maxSteps:=2000000) only[Ty.w,simprocAttr,b1,b2,hsz])|((first|refine a_skip ?_|refine a_exit ?_);try simp only[pst0,simprocAttr])|(refine a_cond _ (by(try simp(maxSteps:=2000000) only[Ty.w,simprocAttr,b1,b2,hsz]);rfl) (fun hb=>?_) (fun hb=>?_)<;>(try simp only[hb0,decide_eq_true_eq,decide_eq_false_iff_not,simprocAttr]at hb)<;>(try(exfalso;omega)))|(with_reducible refine ite_in (fun hb=>?_) (fun hb=>?_)<;>(try simp only[Decidable.not_not]at hb)<;>(try simp only[hb,if_true,if_false,not_false_eq_true,not_true_eq_false, ↓reduceIte])<;>(try simp only[hb0,decide_eq_true_eq,decide_eq_false_iff_not,simprocAttr]at hb)<;>(try(exfalso;omega)))|((first|refine hK _ _ ?_|(clear hK;refine hK _ _ ?_)|(clear hK;clear hK;refine hK _ _ ?_)|(clear hK;clear hK;clear hK;refine hK _ _ ?_));clear hK;try simp only[pst0,simprocAttr])|(rw[if_pos];rotate_left 1;omega;simp(maxSteps:=2000000) only[Ty.w,simprocAttr,b1,b2,hsz])));refine a_loop (fun m S h'=>S 4= .own h.next 0 s.data.toList.length∧S 16= .own h.next 0 s.data.toList.length∧S 17= .sc (.int .i64 s.data.toList.length)∧ ∃ k:Nat,S 18= .sc (.int .i64 k)∧k≤s.data.toList.length∧m=s.data.toList.length-k∧LowI h s.data.toList k h') s.data.toList.length ?_ ?_
   ·simp only[Ty.w,simprocAttr];refine⟨0,rfl,by omega,rfl,(Grow.refl h).new _,[],rfl,?_⟩;simp[Heap.new]
   ·rintro m S h' ⟨g4,g16,g17,k,g18,hk,rfl,hI⟩;by_cases hlt:k<s.data.toList.length
    ·have hd:decide ((k:Int)<(s.data.toList.length:Int))=true:=(by simp;omega);have w7:IntKind.i64.wrap ((k:Int)+1)=k+1:=(by rw[wrap64 (by omega) (by omega)]);obtain⟨c,hx⟩: ∃ c,s.data.toList[k]? =some c:=⟨_,List.getElem?_eq_getElem hlt⟩;obtain⟨p,hp,ho⟩:=hI.ex;have hpl:=lowL_len hp;rw[List.length_take]at hpl;have hgr:=hI.grow;have hlen:(bytesR (p++s.data.toList.drop k)).length=s.data.toList.length:=(by rw[bytesR_len,List.length_append,List.length_drop];omega);have hr:(bytesR (p++s.data.toList.drop k))[k]? =some [.sc (.int .u8 c.toNat)]:=by
      refine bytesR_get ?_;rw[List.getElem?_append_right (by omega),List.getElem?_drop,show k+(k-p.length)=k by omega];exact hx
     have bad:lowB c=none→PV.tup [.sc (.string ⟨#[]⟩),.sc (.bool false)]= .tup [sPV (lowS s).1,.sc (.bool (lowS s).2)]:=fun e=>(by rw[hS,lowL_none hx e]);generalize hrows:bytesR (p++s.data.toList.drop k)=rows at ho hlen hr;have hho:=ho;rcases byte_cls5 c with⟨hup,hlet,a1,a3⟩|⟨hup,a1,a2⟩|⟨hup,hlet,a1,a2,a3⟩|⟨hup,hlet,a1,a2,a3,a4⟩|⟨hup,hlet,a1,a2,a3,a4⟩
     ·cases hg:digB c with
      |true=>
       have hw:wB c=true:=(by simp[wB,hg]);(repeat'(first|refine a_seq fun K hK=>?_|(refine a_block ?_)|((first|refine a_regionS ?_|refine a_region (fun K hK=>?_)|refine a_ret ?_);simp(maxSteps:=2000000) only[Ty.w,simprocAttr,g4,g16,g17,g18,hd,hho,hlen,hr,hlt,Nat.zero_add,a1,a3])|((first|refine a_skip ?_|refine a_exit ?_);try simp only[pst0,simprocAttr])|(refine a_cond _ (by(try simp(maxSteps:=2000000) only[Ty.w,simprocAttr,g4,g16,g17,g18,hd,hho,hlen,hr,hlt,Nat.zero_add,a1,a3]);rfl) (fun hb=>?_) (fun hb=>?_)<;>(try simp only[hb0,decide_eq_true_eq,decide_eq_false_iff_not,simprocAttr]at hb)<;>(try(exfalso;omega)))|(with_reducible refine ite_in (fun hb=>?_) (fun hb=>?_)<;>(try simp only[Decidable.not_not]at hb)<;>(try simp only[hb,if_true,if_false,not_false_eq_true,not_true_eq_false, ↓reduceIte])<;>(try simp only[hb0,decide_eq_true_eq,decide_eq_false_iff_not,simprocAttr]at hb)<;>(try(exfalso;omega)))|((first|refine hK _ _ ?_|(clear hK;refine hK _ _ ?_)|(clear hK;clear hK;refine hK _ _ ?_)|(clear hK;clear hK;clear hK;refine hK _ _ ?_));clear hK;try simp only[pst0,simprocAttr])|(rw[if_pos];rotate_left 1;omega;simp(maxSteps:=2000000) only[Ty.w,simprocAttr,g4,g16,g17,g18,hd,hho,hlen,hr,hlt,Nat.zero_add,a1,a3])));refine owp_useQ (digit_c (c:=c)) (by(try simp only[Ty.w,simprocAttr,g4,g16,g17,g18,hd,hho,hlen,hr,hlt,Nat.zero_add,a1,a3,hg]);try rfl) ?_;simp(maxSteps:=2000000) only[Ty.w,simprocAttr,g4,g16,g17,g18,hd,hho,hlen,hr,hlt,Nat.zero_add,a1,a3,hg];(repeat'(first|refine a_seq fun K hK=>?_|(refine a_block ?_)|((first|refine a_regionS ?_|refine a_region (fun K hK=>?_)|refine a_ret ?_);simp(maxSteps:=2000000) only[Ty.w,simprocAttr,g4,g16,g17,g18,hd,hho,hlen,hr,hlt,Nat.zero_add,a1,a3,hg,w7])|((first|refine a_skip ?_|refine a_exit ?_);try simp only[pst0,simprocAttr])|(refine a_cond _ (by(try simp(maxSteps:=2000000) only[Ty.w,simprocAttr,g4,g16,g17,g18,hd,hho,hlen,hr,hlt,Nat.zero_add,a1,a3,hg,w7]);rfl) (fun hb=>?_) (fun hb=>?_)<;>(try simp only[hb0,decide_eq_true_eq,decide_eq_false_iff_not,simprocAttr]at hb)<;>(try(exfalso;omega)))|(with_reducible refine ite_in (fun hb=>?_) (fun hb=>?_)<;>(try simp only[Decidable.not_not]at hb)<;>(try simp only[hb,if_true,if_false,not_false_eq_true,not_true_eq_false, ↓reduceIte])<;>(try simp only[hb0,decide_eq_true_eq,decide_eq_false_iff_not,simprocAttr]at hb)<;>(try(exfalso;omega)))|((first|refine hK _ _ ?_|(clear hK;refine hK _ _ ?_)|(clear hK;clear hK;refine hK _ _ ?_)|(clear hK;clear hK;clear hK;refine hK _ _ ?_));clear hK;try simp only[pst0,simprocAttr])|(rw[if_pos];rotate_left 1;omega;simp(maxSteps:=2000000) only[Ty.w,simprocAttr,g4,g16,g17,g18,hd,hho,hlen,hr,hlt,Nat.zero_add,a1,a3,hg,w7])));exact⟨s.data.toList.length-(k+1),by omega,k+1,by simp,by omega,rfl,hI.keep hx (by simp[lowB,hup,hw])⟩
      |false=>
       cases hs2:signs.contains c with
       |true=>
        have hw:wB c=true:=(by simp only[wB,hs2,Bool.or_true]);have hfi:decide (firstIdx ⟨#[45,95,63,58,60,62,61,43,42]⟩ c≥0)=true:=(by rw[firstIdx_ge];exact hs2);(repeat'(first|refine a_seq fun K hK=>?_|(refine a_block ?_)|((first|refine a_regionS ?_|refine a_region (fun K hK=>?_)|refine a_ret ?_);simp(maxSteps:=2000000) only[Ty.w,simprocAttr,g4,g16,g17,g18,hd,hho,hlen,hr,hlt,Nat.zero_add,a1,a3])|((first|refine a_skip ?_|refine a_exit ?_);try simp only[pst0,simprocAttr])|(refine a_cond _ (by(try simp(maxSteps:=2000000) only[Ty.w,simprocAttr,g4,g16,g17,g18,hd,hho,hlen,hr,hlt,Nat.zero_add,a1,a3]);rfl) (fun hb=>?_) (fun hb=>?_)<;>(try simp only[hb0,decide_eq_true_eq,decide_eq_false_iff_not,simprocAttr]at hb)<;>(try(exfalso;omega)))|(with_reducible refine ite_in (fun hb=>?_) (fun hb=>?_)<;>(try simp only[Decidable.not_not]at hb)<;>(try simp only[hb,if_true,if_false,not_false_eq_true,not_true_eq_false, ↓reduceIte])<;>(try simp only[hb0,decide_eq_true_eq,decide_eq_false_iff_not,simprocAttr]at hb)<;>(try(exfalso;omega)))|((first|refine hK _ _ ?_|(clear hK;refine hK _ _ ?_)|(clear hK;clear hK;refine hK _ _ ?_)|(clear hK;clear hK;clear hK;refine hK _ _ ?_));clear hK;try simp only[pst0,simprocAttr])|(rw[if_pos];rotate_left 1;omega;simp(maxSteps:=2000000) only[Ty.w,simprocAttr,g4,g16,g17,g18,hd,hho,hlen,hr,hlt,Nat.zero_add,a1,a3])));refine owp_useQ (digit_c (c:=c)) (by(try simp only[Ty.w,simprocAttr,g4,g16,g17,g18,hd,hho,hlen,hr,hlt,Nat.zero_add,a1,a3,hg]);try rfl) ?_;simp(maxSteps:=2000000) only[Ty.w,simprocAttr,g4,g16,g17,g18,hd,hho,hlen,hr,hlt,Nat.zero_add,a1,a3,hg];(repeat'(first|refine a_seq fun K hK=>?_|(refine a_block ?_)|((first|refine a_regionS ?_|refine a_region (fun K hK=>?_)|refine a_ret ?_);simp(maxSteps:=2000000) only[Ty.w,simprocAttr,g4,g16,g17,g18,hd,hho,hlen,hr,hlt,Nat.zero_add,a1,a3,hg])|((first|refine a_skip ?_|refine a_exit ?_);try simp only[pst0,simprocAttr])|(refine a_cond _ (by(try simp(maxSteps:=2000000) only[Ty.w,simprocAttr,g4,g16,g17,g18,hd,hho,hlen,hr,hlt,Nat.zero_add,a1,a3,hg]);rfl) (fun hb=>?_) (fun hb=>?_)<;>(try simp only[hb0,decide_eq_true_eq,decide_eq_false_iff_not,simprocAttr]at hb)<;>(try(exfalso;omega)))|(with_reducible refine ite_in (fun hb=>?_) (fun hb=>?_)<;>(try simp only[Decidable.not_not]at hb)<;>(try simp only[hb,if_true,if_false,not_false_eq_true,not_true_eq_false, ↓reduceIte])<;>(try simp only[hb0,decide_eq_true_eq,decide_eq_false_iff_not,simprocAttr]at hb)<;>(try(exfalso;omega)))|((first|refine hK _ _ ?_|(clear hK;refine hK _ _ ?_)|(clear hK;clear hK;refine hK _ _ ?_)|(clear hK;clear hK;clear hK;refine hK _ _ ?_));clear hK;try simp only[pst0,simprocAttr])|(rw[if_pos];rotate_left 1;omega;simp(maxSteps:=2000000) only[Ty.w,simprocAttr,g4,g16,g17,g18,hd,hho,hlen,hr,hlt,Nat.zero_add,a1,a3,hg])));refine owp_useQ (indexByte_c (s:=⟨#[45,95,63,58,60,62,61,43,42]⟩) (c:=c)) (by(try simp only[Ty.w,simprocAttr,g4,g16,g17,g18,hd,hho,hlen,hr,hlt,Nat.zero_add,a1,a3,hg,hfi]);try rfl) ?_;simp(maxSteps:=2000000) only[Ty.w,simprocAttr,g4,g16,g17,g18,hd,hho,hlen,hr,hlt,Nat.zero_add,a1,a3,hg,hfi]
        (repeat'(first|refine a_seq fun K hK=>?_|(refine a_block ?_)|((first|refine a_regionS ?_|refine a_region (fun K hK=>?_)|refine a_ret ?_);simp(maxSteps:=2000000) only[Ty.w,simprocAttr,g4,g16,g17,g18,hd,hho,hlen,hr,hlt,Nat.zero_add,a1,a3,hg,hfi,w7])|((first|refine a_skip ?_|refine a_exit ?_);try simp only[pst0,simprocAttr])|(refine a_cond _ (by(try simp(maxSteps:=2000000) only[Ty.w,simprocAttr,g4,g16,g17,g18,hd,hho,hlen,hr,hlt,Nat.zero_add,a1,a3,hg,hfi,w7]);rfl) (fun hb=>?_) (fun hb=>?_)<;>(try simp only[hb0,decide_eq_true_eq,decide_eq_false_iff_not,simprocAttr]at hb)<;>(try(exfalso;omega)))|(with_reducible refine ite_in (fun hb=>?_) (fun hb=>?_)<;>(try simp only[Decidable.not_not]at hb)<;>(try simp only[hb,if_true,if_false,not_false_eq_true,not_true_eq_false, ↓reduceIte])<;>(try simp only[hb0,decide_eq_true_eq,decide_eq_false_iff_not,simprocAttr]at hb)<;>(try(exfalso;omega)))|((first|refine hK _ _ ?_|(clear hK;refine hK _ _ ?_)|(clear hK;clear hK;refine hK _ _ ?_)|(clear hK;clear hK;clear hK;refine hK _ _ ?_));clear hK;try simp only[pst0,simprocAttr])|(rw[if_pos];rotate_left 1;omega;simp(maxSteps:=2000000) only[Ty.w,simprocAttr,g4,g16,g17,g18,hd,hho,hlen,hr,hlt,Nat.zero_add,a1,a3,hg,hfi,w7])));exact⟨s.data.toList.length-(k+1),by omega,k+1,by simp,by omega,rfl,hI.keep hx (by simp[lowB,hup,hw])⟩
       |false=>
        have hw:wB c=false:=(by simp only[wB,hs2,hg,hlet,Bool.or_false]);have hfi:decide (firstIdx ⟨#[45,95,63,58,60,62,61,43,42]⟩ c≥0)=false:=(by rw[firstIdx_ge];exact hs2);(repeat'(first|refine a_seq fun K hK=>?_|(refine a_block ?_)|((first|refine a_regionS ?_|refine a_region (fun K hK=>?_)|refine a_ret ?_);simp(maxSteps:=2000000) only[Ty.w,simprocAttr,g4,g16,g17,g18,hd,hho,hlen,hr,hlt,Nat.zero_add,a1,a3])|((first|refine a_skip ?_|refine a_exit ?_);try simp only[pst0,simprocAttr])|(refine a_cond _ (by(try simp(maxSteps:=2000000) only[Ty.w,simprocAttr,g4,g16,g17,g18,hd,hho,hlen,hr,hlt,Nat.zero_add,a1,a3]);rfl) (fun hb=>?_) (fun hb=>?_)<;>(try simp only[hb0,decide_eq_true_eq,decide_eq_false_iff_not,simprocAttr]at hb)<;>(try(exfalso;omega)))|(with_reducible refine ite_in (fun hb=>?_) (fun hb=>?_)<;>(try simp only[Decidable.not_not]at hb)<;>(try simp only[hb,if_true,if_false,not_false_eq_true,not_true_eq_false, ↓reduceIte])<;>(try simp only[hb0,decide_eq_true_eq,decide_eq_false_iff_not,simprocAttr]at hb)<;>(try(exfalso;omega)))|((first|refine hK _ _ ?_|(clear hK;refine hK _ _ ?_)|(clear hK;clear hK;refine hK _ _ ?_)|(clear hK;clear hK;clear hK;refine hK _ _ ?_));clear hK;try simp only[pst0,simprocAttr])|(rw[if_pos];rotate_left 1;omega;simp(maxSteps:=2000000) only[Ty.w,simprocAttr,g4,g16,g17,g18,hd,hho,hlen,hr,hlt,Nat.zero_add,a1,a3])));refine owp_useQ (digit_c (c:=c)) (by(try simp only[Ty.w,simprocAttr,g4,g16,g17,g18,hd,hho,hlen,hr,hlt,Nat.zero_add,a1,a3,hg]);try rfl) ?_;simp(maxSteps:=2000000) only[Ty.w,simprocAttr,g4,g16,g17,g18,hd,hho,hlen,hr,hlt,Nat.zero_add,a1,a3,hg];(repeat'(first|refine a_seq fun K hK=>?_|(refine a_block ?_)|((first|refine a_regionS ?_|refine a_region (fun K hK=>?_)|refine a_ret ?_);simp(maxSteps:=2000000) only[Ty.w,simprocAttr,g4,g16,g17,g18,hd,hho,hlen,hr,hlt,Nat.zero_add,a1,a3,hg])|((first|refine a_skip ?_|refine a_exit ?_);try simp only[pst0,simprocAttr])|(refine a_cond _ (by(try simp(maxSteps:=2000000) only[Ty.w,simprocAttr,g4,g16,g17,g18,hd,hho,hlen,hr,hlt,Nat.zero_add,a1,a3,hg]);rfl) (fun hb=>?_) (fun hb=>?_)<;>(try simp only[hb0,decide_eq_true_eq,decide_eq_false_iff_not,simprocAttr]at hb)<;>(try(exfalso;omega)))|(with_reducible refine ite_in (fun hb=>?_) (fun hb=>?_)<;>(try simp only[Decidable.not_not]at hb)<;>(try simp only[hb,if_true,if_false,not_false_eq_true,not_true_eq_false, ↓reduceIte])<;>(try simp only[hb0,decide_eq_true_eq,decide_eq_false_iff_not,simprocAttr]at hb)<;>(try(exfalso;omega)))|((first|refine hK _ _ ?_|(clear hK;refine hK _ _ ?_)|(clear hK;clear hK;refine hK _ _ ?_)|(clear hK;clear hK;clear hK;refine hK _ _ ?_));clear hK;try simp only[pst0,simprocAttr])|(rw[if_pos];rotate_left 1;omega;simp(maxSteps:=2000000) only[Ty.w,simprocAttr,g4,g16,g17,g18,hd,hho,hlen,hr,hlt,Nat.zero_add,a1,a3,hg])));refine owp_useQ (indexByte_c (s:=⟨#[45,95,63,58,60,62,61,43,42]⟩) (c:=c)) (by(try simp only[Ty.w,simprocAttr,g4,g16,g17,g18,hd,hho,hlen,hr,hlt,Nat.zero_add,a1,a3,hg,hfi]);try rfl) ?_;simp(maxSteps:=2000000) only[Ty.w,simprocAttr,g4,g16,g17,g18,hd,hho,hlen,hr,hlt,Nat.zero_add,a1,a3,hg,hfi]
        (repeat'(first|refine a_seq fun K hK=>?_|(refine a_block ?_)|((first|refine a_regionS ?_|refine a_region (fun K hK=>?_)|refine a_ret ?_);simp(maxSteps:=2000000) only[Ty.w,simprocAttr,g4,g16,g17,g18,hd,hho,hlen,hr,hlt,Nat.zero_add,a1,a3,hg,hfi])|((first|refine a_skip ?_|refine a_exit ?_);try simp only[pst0,simprocAttr])|(refine a_cond _ (by(try simp(maxSteps:=2000000) only[Ty.w,simprocAttr,g4,g16,g17,g18,hd,hho,hlen,hr,hlt,Nat.zero_add,a1,a3,hg,hfi]);rfl) (fun hb=>?_) (fun hb=>?_)<;>(try simp only[hb0,decide_eq_true_eq,decide_eq_false_iff_not,simprocAttr]at hb)<;>(try(exfalso;omega)))|(with_reducible refine ite_in (fun hb=>?_) (fun hb=>?_)<;>(try simp only[Decidable.not_not]at hb)<;>(try simp only[hb,if_true,if_false,not_false_eq_true,not_true_eq_false, ↓reduceIte])<;>(try simp only[hb0,decide_eq_true_eq,decide_eq_false_iff_not,simprocAttr]at hb)<;>(try(exfalso;omega)))|((first|refine hK _ _ ?_|(clear hK;refine hK _ _ ?_)|(clear hK;clear hK;refine hK _ _ ?_)|(clear hK;clear hK;clear hK;refine hK _ _ ?_));clear hK;try simp only[pst0,simprocAttr])|(rw[if_pos];rotate_left 1;omega;simp(maxSteps:=2000000) only[Ty.w,simprocAttr,g4,g16,g17,g18,hd,hho,hlen,hr,hlt,Nat.zero_add,a1,a3,hg,hfi])));exact⟨bad (by simp[lowB,hup,hw]),hgr⟩
     ·have hu:65≤c.toNat∧c.toNat≤90:=(by simpa[upB]using hup);have hadd:(c+32).toNat=c.toNat+32:=(by rw[UInt8.toNat_add];simp;omega);have w1:IntKind.u8.wrap ((c.toNat:Int)+97)=(c.toNat:Int)+97:=u8w _ (by omega) (by omega);have w2:IntKind.u8.wrap ((c.toNat:Int)+97-65)=((c+32).toNat:Int):=(by rw[u8w _ (by omega) (by omega),hadd];omega);(repeat'(first|refine a_seq fun K hK=>?_|(refine a_block ?_)|((first|refine a_regionS ?_|refine a_region (fun K hK=>?_)|refine a_ret ?_);simp(maxSteps:=2000000) only[Ty.w,simprocAttr,g4,g16,g17,g18,hd,hho,hlen,hr,hlt,a1,a2,w1,w2,w7,Nat.zero_add])|((first|refine a_skip ?_|refine a_exit ?_);try simp only[pst0,simprocAttr])|(refine a_cond _ (by(try simp(maxSteps:=2000000) only[Ty.w,simprocAttr,g4,g16,g17,g18,hd,hho,hlen,hr,hlt,a1,a2,w1,w2,w7,Nat.zero_add]);rfl) (fun hb=>?_) (fun hb=>?_)<;>(try simp only[hb0,decide_eq_true_eq,decide_eq_false_iff_not,simprocAttr]at hb)<;>(try(exfalso;omega)))|(with_reducible refine ite_in (fun hb=>?_) (fun hb=>?_)<;>(try simp only[Decidable.not_not]at hb)<;>(try simp only[hb,if_true,if_false,not_false_eq_true,not_true_eq_false, ↓reduceIte])<;>(try simp only[hb0,decide_eq_true_eq,decide_eq_false_iff_not,simprocAttr]at hb)<;>(try(exfalso;omega)))|((first|refine hK _ _ ?_|(clear hK;refine hK _ _ ?_)|(clear hK;clear hK;refine hK _ _ ?_)|(clear hK;clear hK;clear hK;refine hK _ _ ?_));clear hK;try simp only[pst0,simprocAttr])|(rw[if_pos];rotate_left 1;omega;simp(maxSteps:=2000000) only[Ty.w,simprocAttr,g4,g16,g17,g18,hd,hho,hlen,hr,hlt,a1,a2,w1,w2,w7,Nat.zero_add])));exact⟨s.data.toList.length-(k+1),by omega,k+1,by simp,by omega,rfl,hI.put hx (by simp[lowB,hup]) ho⟩
     ·cases hg:digB c with
      |true=>
       have hw:wB c=true:=(by simp[wB,hg]);(repeat'(first|refine a_seq fun K hK=>?_|(refine a_block ?_)|((first|refine a_regionS ?_|refine a_region (fun K hK=>?_)|refine a_ret ?_);simp(maxSteps:=2000000) only[Ty.w,simprocAttr,g4,g16,g17,g18,hd,hho,hlen,hr,hlt,Nat.zero_add,a1,a2,a3])|((first|refine a_skip ?_|refine a_exit ?_);try simp only[pst0,simprocAttr])|(refine a_cond _ (by(try simp(maxSteps:=2000000) only[Ty.w,simprocAttr,g4,g16,g17,g18,hd,hho,hlen,hr,hlt,Nat.zero_add,a1,a2,a3]);rfl) (fun hb=>?_) (fun hb=>?_)<;>(try simp only[hb0,decide_eq_true_eq,decide_eq_false_iff_not,simprocAttr]at hb)<;>(try(exfalso;omega)))|(with_reducible refine ite_in (fun hb=>?_) (fun hb=>?_)<;>(try simp only[Decidable.not_not]at hb)<;>(try simp only[hb,if_true,if_false,not_false_eq_true,not_true_eq_false, ↓reduceIte])<;>(try simp only[hb0,decide_eq_true_eq,decide_eq_false_iff_not,simprocAttr]at hb)<;>(try(exfalso;omega)))|((first|refine hK _ _ ?_|(clear hK;refine hK _ _ ?_)|(clear hK;clear hK;refine hK _ _ ?_)|(clear hK;clear hK;clear hK;refine hK _ _ ?_));clear hK;try simp only[pst0,simprocAttr])|(rw[if_pos];rotate_left 1;omega;simp(maxSteps:=2000000) only[Ty.w,simprocAttr,g4,g16,g17,g18,hd,hho,hlen,hr,hlt,Nat.zero_add,a1,a2,a3])));refine owp_useQ (digit_c (c:=c)) (by(try simp only[Ty.w,simprocAttr,g4,g16,g17,g18,hd,hho,hlen,hr,hlt,Nat.zero_add,a1,a2,a3,hg]);try rfl) ?_;simp(maxSteps:=2000000) only[Ty.w,simprocAttr,g4,g16,g17,g18,hd,hho,hlen,hr,hlt,Nat.zero_add,a1,a2,a3,hg];(repeat'(first|refine a_seq fun K hK=>?_|(refine a_block ?_)|((first|refine a_regionS ?_|refine a_region (fun K hK=>?_)|refine a_ret ?_);simp(maxSteps:=2000000) only[Ty.w,simprocAttr,g4,g16,g17,g18,hd,hho,hlen,hr,hlt,Nat.zero_add,a1,a2,a3,hg,w7])|((first|refine a_skip ?_|refine a_exit ?_);try simp only[pst0,simprocAttr])|(refine a_cond _ (by(try simp(maxSteps:=2000000) only[Ty.w,simprocAttr,g4,g16,g17,g18,hd,hho,hlen,hr,hlt,Nat.zero_add,a1,a2,a3,hg,w7]);rfl) (fun hb=>?_) (fun hb=>?_)<;>(try simp only[hb0,decide_eq_true_eq,decide_eq_false_iff_not,simprocAttr]at hb)<;>(try(exfalso;omega)))|(with_reducible refine ite_in (fun hb=>?_) (fun hb=>?_)<;>(try simp only[Decidable.not_not]at hb)<;>(try simp only[hb,if_true,if_false,not_false_eq_true,not_true_eq_false, ↓reduceIte])<;>(try simp only[hb0,decide_eq_true_eq,decide_eq_false_iff_not,simprocAttr]at hb)<;>(try(exfalso;omega)))|((first|refine hK _ _ ?_|(clear hK;refine hK _ _ ?_)|(clear hK;clear hK;refine hK _ _ ?_)|(clear hK;clear hK;clear hK;refine hK _ _ ?_));clear hK;try simp only[pst0,simprocAttr])|(rw[if_pos];rotate_left 1;omega;simp(maxSteps:=2000000) only[Ty.w,simprocAttr,g4,g16,g17,g18,hd,hho,hlen,hr,hlt,Nat.zero_add,a1,a2,a3,hg,w7])));exact⟨s.data.toList.length-(k+1),by omega,k+1,by simp,by omega,rfl,hI.keep hx (by simp[lowB,hup,hw])⟩
      |false=>
       cases hs2:signs.contains c with
       |true=>
        have hw:wB c=true:=(by simp only[wB,hs2,Bool.or_true]);have hfi:decide (firstIdx ⟨#[45,95,63,58,60,62,61,43,42]⟩ c≥0)=true:=(by rw[firstIdx_ge];exact hs2);(repeat'(first|refine a_seq fun K hK=>?_|(refine a_block ?_)|((first|refine a_regionS ?_|refine a_region (fun K hK=>?_)|refine a_ret ?_);simp(maxSteps:=2000000) only[Ty.w,simprocAttr,g4,g16,g17,g18,hd,hho,hlen,hr,hlt,Nat.zero_add,a1,a2,a3])|((first|refine a_skip ?_|refine a_exit ?_);try simp only[pst0,simprocAttr])|(refine a_cond _ (by(try simp(maxSteps:=2000000) only[Ty.w,simprocAttr,g4,g16,g17,g18,hd,hho,hlen,hr,hlt,Nat.zero_add,a1,a2,a3]);rfl) (fun hb=>?_) (fun hb=>?_)<;>(try simp only[hb0,decide_eq_true_eq,decide_eq_false_iff_not,simprocAttr]at hb)<;>(try(exfalso;omega)))|(with_reducible refine ite_in (fun hb=>?_) (fun hb=>?_)<;>(try simp only[Decidable.not_not]at hb)<;>(try simp only[hb,if_true,if_false,not_false_eq_true,not_true_eq_false, ↓reduceIte])<;>(try simp only[hb0,decide_eq_true_eq,decide_eq_false_iff_not,simprocAttr]at hb)<;>(try(exfalso;omega)))|((first|refine hK _ _ ?_|(clear hK;refine hK _ _ ?_)|(clear hK;clear hK;refine hK _ _ ?_)|(clear hK;clear hK;clear hK;refine hK _ _ ?_));clear hK;try simp only[pst0,simprocAttr])|(rw[if_pos];rotate_left 1;omega;simp(maxSteps:=2000000) only[Ty.w,simprocAttr,g4,g16,g17,g18,hd,hho,hlen,hr,hlt,Nat.zero_add,a1,a2,a3])));refine owp_useQ (digit_c (c:=c)) (by(try simp only[Ty.w,simprocAttr,g4,g16,g17,g18,hd,hho,hlen,hr,hlt,Nat.zero_add,a1,a2,a3,hg]);try rfl) ?_;simp(maxSteps:=2000000) only[Ty.w,simprocAttr,g4,g16,g17,g18,hd,hho,hlen,hr,hlt,Nat.zero_add,a1,a2,a3,hg];(repeat'(first|refine a_seq fun K hK=>?_|(refine a_block ?_)|((first|refine a_regionS ?_|refine a_region (fun K hK=>?_)|refine a_ret ?_);simp(maxSteps:=2000000) only[Ty.w,simprocAttr,g4,g16,g17,g18,hd,hho,hlen,hr,hlt,Nat.zero_add,a1,a2,a3,hg])|((first|refine a_skip ?_|refine a_exit ?_);try simp only[pst0,simprocAttr])|(refine a_cond _ (by(try simp(maxSteps:=2000000) only[Ty.w,simprocAttr,g4,g16,g17,g18,hd,hho,hlen,hr,hlt,Nat.zero_add,a1,a2,a3,hg]);rfl) (fun hb=>?_) (fun hb=>?_)<;>(try simp only[hb0,decide_eq_true_eq,decide_eq_false_iff_not,simprocAttr]at hb)<;>(try(exfalso;omega)))|(with_reducible refine ite_in (fun hb=>?_) (fun hb=>?_)<;>(try simp only[Decidable.not_not]at hb)<;>(try simp only[hb,if_true,if_false,not_false_eq_true,not_true_eq_false, ↓reduceIte])<;>(try simp only[hb0,decide_eq_true_eq,decide_eq_false_iff_not,simprocAttr]at hb)<;>(try(exfalso;omega)))|((first|refine hK _ _ ?_|(clear hK;refine hK _ _ ?_)|(clear hK;clear hK;refine hK _ _ ?_)|(clear hK;clear hK;clear hK;refine hK _ _ ?_));clear hK;try simp only[pst0,simprocAttr])|(rw[if_pos];rotate_left 1;omega;simp(maxSteps:=2000000) only[Ty.w,simprocAttr,g4,g16,g17,g18,hd,hho,hlen,hr,hlt,Nat.zero_add,a1,a2,a3,hg])));refine owp_useQ (indexByte_c (s:=⟨#[45,95,63,58,60,62,61,43,42]⟩) (c:=c)) (by(try simp only[Ty.w,simprocAttr,g4,g16,g17,g18,hd,hho,hlen,hr,hlt,Nat.zero_add,a1,a2,a3,hg,hfi]);try rfl) ?_;simp(maxSteps:=2000000) only[Ty.w,simprocAttr,g4,g16,g17,g18,hd,hho,hlen,hr,hlt,Nat.zero_add,a1,a2,a3,hg,hfi]
        (repeat'(first|refine a_seq fun K hK=>?_|(refine a_block ?_)|((first|refine a_regionS ?_|refine a_region (fun K hK=>?_)|refine a_ret ?_);simp(maxSteps:=2000000) only[Ty.w,simprocAttr,g4,g16,g17,g18,hd,hho,hlen,hr,hlt,Nat.zero_add,a1,a2,a3,hg,hfi,w7])|((first|refine a_skip ?_|refine a_exit ?_);try simp only[pst0,simprocAttr])|(refine a_cond _ (by(try simp(maxSteps:=2000000) only[Ty.w,simprocAttr,g4,g16,g17,g18,hd,hho,hlen,hr,hlt,Nat.zero_add,a1,a2,a3,hg,hfi,w7]);rfl) (fun hb=>?_) (fun hb=>?_)<;>(try simp only[hb0,decide_eq_true_eq,decide_eq_false_iff_not,simprocAttr]at hb)<;>(try(exfalso;omega)))|(with_reducible refine ite_in (fun hb=>?_) (fun hb=>?_)<;>(try simp only[Decidable.not_not]at hb)<;>(try simp only[hb,if_true,if_false,not_false_eq_true,not_true_eq_false, ↓reduceIte])<;>(try simp only[hb0,decide_eq_true_eq,decide_eq_false_iff_not,simprocAttr]at hb)<;>(try(exfalso;omega)))|((first|refine hK _ _ ?_|(clear hK;refine hK _ _ ?_)|(clear hK;clear hK;refine hK _ _ ?_)|(clear hK;clear hK;clear hK;refine hK _ _ ?_));clear hK;try simp only[pst0,simprocAttr])|(rw[if_pos];rotate_left 1;omega;simp(maxSteps:=2000000) only[Ty.w,simprocAttr,g4,g16,g17,g18,hd,hho,hlen,hr,hlt,Nat.zero_add,a1,a2,a3,hg,hfi,w7])));exact⟨s.data.toList.length-(k+1),by omega,k+1,by simp,by omega,rfl,hI.keep hx (by simp[lowB,hup,hw])⟩
       |false=>
        have hw:wB c=false:=(by simp only[wB,hs2,hg,hlet,Bool.or_false]);have hfi:decide (firstIdx ⟨#[45,95,63,58,60,62,61,43,42]⟩ c≥0)=false:=(by rw[firstIdx_ge];exact hs2);(repeat'(first|refine a_seq fun K hK=>?_|(refine a_block ?_)|((first|refine a_regionS ?_|refine a_region (fun K hK=>?_)|refine a_ret ?_);simp(maxSteps:=2000000) only[Ty.w,simprocAttr,g4,g16,g17,g18,hd,hho,hlen,hr,hlt,Nat.zero_add,a1,a2,a3])|((first|refine a_skip ?_|refine a_exit ?_);try simp only[pst0,simprocAttr])|(refine a_cond _ (by(try simp(maxSteps:=2000000) only[Ty.w,simprocAttr,g4,g16,g17,g18,hd,hho,hlen,hr,hlt,Nat.zero_add,a1,a2,a3]);rfl) (fun hb=>?_) (fun hb=>?_)<;>(try simp only[hb0,decide_eq_true_eq,decide_eq_false_iff_not,simprocAttr]at hb)<;>(try(exfalso;omega)))|(with_reducible refine ite_in (fun hb=>?_) (fun hb=>?_)<;>(try simp only[Decidable.not_not]at hb)<;>(try simp only[hb,if_true,if_false,not_false_eq_true,not_true_eq_false, ↓reduceIte])<;>(try simp only[hb0,decide_eq_true_eq,decide_eq_false_iff_not,simprocAttr]at hb)<;>(try(exfalso;omega)))|((first|refine hK _ _ ?_|(clear hK;refine hK _ _ ?_)|(clear hK;clear hK;refine hK _ _ ?_)|(clear hK;clear hK;clear hK;refine hK _ _ ?_));clear hK;try simp only[pst0,simprocAttr])|(rw[if_pos];rotate_left 1;omega;simp(maxSteps:=2000000) only[Ty.w,simprocAttr,g4,g16,g17,g18,hd,hho,hlen,hr,hlt,Nat.zero_add,a1,a2,a3])));refine owp_useQ (digit_c (c:=c)) (by(try simp only[Ty.w,simprocAttr,g4,g16,g17,g18,hd,hho,hlen,hr,hlt,Nat.zero_add,a1,a2,a3,hg]);try rfl) ?_;simp(maxSteps:=2000000) only[Ty.w,simprocAttr,g4,g16,g17,g18,hd,hho,hlen,hr,hlt,Nat.zero_add,a1,a2,a3,hg];(repeat'(first|refine a_seq fun K hK=>?_|(refine a_block ?_)|((first|refine a_regionS ?_|refine a_region (fun K hK=>?_)|refine a_ret ?_);simp(maxSteps:=2000000) only[Ty.w,simprocAttr,g4,g16,g17,g18,hd,hho,hlen,hr,hlt,Nat.zero_add,a1,a2,a3,hg])|((first|refine a_skip ?_|refine a_exit ?_);try simp only[pst0,simprocAttr])|(refine a_cond _ (by(try simp(maxSteps:=2000000) only[Ty.w,simprocAttr,g4,g16,g17,g18,hd,hho,hlen,hr,hlt,Nat.zero_add,a1,a2,a3,hg]);rfl) (fun hb=>?_) (fun hb=>?_)<;>(try simp only[hb0,decide_eq_true_eq,decide_eq_false_iff_not,simprocAttr]at hb)<;>(try(exfalso;omega)))|(with_reducible refine ite_in (fun hb=>?_) (fun hb=>?_)<;>(try simp only[Decidable.not_not]at hb)<;>(try simp only[hb,if_true,if_false,not_false_eq_true,not_true_eq_false, ↓reduceIte])<;>(try simp only[hb0,decide_eq_true_eq,decide_eq_false_iff_not,simprocAttr]at hb)<;>(try(exfalso;omega)))|((first|refine hK _ _ ?_|(clear hK;refine hK _ _ ?_)|(clear hK;clear hK;refine hK _ _ ?_)|(clear hK;clear hK;clear hK;refine hK _ _ ?_));clear hK;try simp only[pst0,simprocAttr])|(rw[if_pos];rotate_left 1;omega;simp(maxSteps:=2000000) only[Ty.w,simprocAttr,g4,g16,g17,g18,hd,hho,hlen,hr,hlt,Nat.zero_add,a1,a2,a3,hg])));refine owp_useQ (indexByte_c (s:=⟨#[45,95,63,58,60,62,61,43,42]⟩) (c:=c)) (by(try simp only[Ty.w,simprocAttr,g4,g16,g17,g18,hd,hho,hlen,hr,hlt,Nat.zero_add,a1,a2,a3,hg,hfi]);try rfl) ?_;simp(maxSteps:=2000000) only[Ty.w,simprocAttr,g4,g16,g17,g18,hd,hho,hlen,hr,hlt,Nat.zero_add,a1,a2,a3,hg,hfi]
        (repeat'(first|refine a_seq fun K hK=>?_|(refine a_block ?_)|((first|refine a_regionS ?_|refine a_region (fun K hK=>?_)|refine a_ret ?_);simp(maxSteps:=2000000) only[Ty.w,simprocAttr,g4,g16,g17,g18,hd,hho,hlen,hr,hlt,Nat.zero_add,a1,a2,a3,hg,hfi])|((first|refine a_skip ?_|refine a_exit ?_);try simp only[pst0,simprocAttr])|(refine a_cond _ (by(try simp(maxSteps:=2000000) only[Ty.w,simprocAttr,g4,g16,g17,g18,hd,hho,hlen,hr,hlt,Nat.zero_add,a1,a2,a3,hg,hfi]);rfl) (fun hb=>?_) (fun hb=>?_)<;>(try simp only[hb0,decide_eq_true_eq,decide_eq_false_iff_not,simprocAttr]at hb)<;>(try(exfalso;omega)))|(with_reducible refine ite_in (fun hb=>?_) (fun hb=>?_)<;>(try simp only[Decidable.not_not]at hb)<;>(try simp only[hb,if_true,if_false,not_false_eq_true,not_true_eq_false, ↓reduceIte])<;>(try simp only[hb0,decide_eq_true_eq,decide_eq_false_iff_not,simprocAttr]at hb)<;>(try(exfalso;omega)))|((first|refine hK _ _ ?_|(clear hK;refine hK _ _ ?_)|(clear hK;clear hK;refine hK _ _ ?_)|(clear hK;clear hK;clear hK;refine hK _ _ ?_));clear hK;try simp only[pst0,simprocAttr])|(rw[if_pos];rotate_left 1;omega;simp(maxSteps:=2000000) only[Ty.w,simprocAttr,g4,g16,g17,g18,hd,hho,hlen,hr,hlt,Nat.zero_add,a1,a2,a3,hg,hfi])));exact⟨bad (by simp[lowB,hup,hw]),hgr⟩
     ·(repeat' (first|refine a_seq fun K hK=>?_|(refine a_block ?_)|((first|refine a_regionS ?_|refine a_region (fun K hK=>?_)|refine a_ret ?_);simp(maxSteps:=2000000) only[Ty.w,simprocAttr,g4,g16,g17,g18,hd,hho,hlen,hr,hlt,a1,a2,a3,a4,w7,Nat.zero_add])|((first|refine a_skip ?_|refine a_exit ?_);try simp only[pst0,simprocAttr])|(refine a_cond _ (by(try simp(maxSteps:=2000000) only[Ty.w,simprocAttr,g4,g16,g17,g18,hd,hho,hlen,hr,hlt,a1,a2,a3,a4,w7,Nat.zero_add]);rfl) (fun hb=>?_) (fun hb=>?_)<;>(try simp only[hb0,decide_eq_true_eq,decide_eq_false_iff_not,simprocAttr]at hb)<;>(try(exfalso;omega)))|(with_reducible refine ite_in (fun hb=>?_) (fun hb=>?_)<;>(try simp only[Decidable.not_not]at hb)<;>(try simp only[hb,if_true,if_false,not_false_eq_true,not_true_eq_false, ↓reduceIte])<;>(try simp only[hb0,decide_eq_true_eq,decide_eq_false_iff_not,simprocAttr]at hb)<;>(try(exfalso;omega)))|((first|refine hK _ _ ?_|(clear hK;refine hK _ _ ?_)|(clear hK;clear hK;refine hK _ _ ?_)|(clear hK;clear hK;clear hK;refine hK _ _ ?_));clear hK;try simp only[pst0,simprocAttr])|(rw[if_pos];rotate_left 1;omega;simp(maxSteps:=2000000) only[Ty.w,simprocAttr,g4,g16,g17,g18,hd,hho,hlen,hr,hlt,a1,a2,a3,a4,w7,Nat.zero_add])));exact⟨s.data.toList.length-(k+1),by omega,k+1,by simp,by omega,rfl,hI.keep hx (by simp[lowB,hup,wB,hlet])⟩
     ·cases hg:digB c with
      |true=>
       have hw:wB c=true:=(by simp[wB,hg]);(repeat'(first|refine a_seq fun K hK=>?_|(refine a_block ?_)|((first|refine a_regionS ?_|refine a_region (fun K hK=>?_)|refine a_ret ?_);simp(maxSteps:=2000000) only[Ty.w,simprocAttr,g4,g16,g17,g18,hd,hho,hlen,hr,hlt,Nat.zero_add,a1,a2,a3,a4])|((first|refine a_skip ?_|refine a_exit ?_);try simp only[pst0,simprocAttr])|(refine a_cond _ (by(try simp(maxSteps:=2000000) only[Ty.w,simprocAttr,g4,g16,g17,g18,hd,hho,hlen,hr,hlt,Nat.zero_add,a1,a2,a3,a4]);rfl) (fun hb=>?_) (fun hb=>?_)<;>(try simp only[hb0,decide_eq_true_eq,decide_eq_false_iff_not,simprocAttr]at hb)<;>(try(exfalso;omega)))|(with_reducible refine ite_in (fun hb=>?_) (fun hb=>?_)<;>(try simp only[Decidable.not_not]at hb)<;>(try simp only[hb,if_true,if_false,not_false_eq_true,not_true_eq_false, ↓reduceIte])<;>(try simp only[hb0,decide_eq_true_eq,decide_eq_false_iff_not,simprocAttr]at hb)<;>(try(exfalso;omega)))|((first|refine hK _ _ ?_|(clear hK;refine hK _ _ ?_)|(clear hK;clear hK;refine hK _ _ ?_)|(clear hK;clear hK;clear hK;refine hK _ _ ?_));clear hK;try simp only[pst0,simprocAttr])|(rw[if_pos];rotate_left 1;omega;simp(maxSteps:=2000000) only[Ty.w,simprocAttr,g4,g16,g17,g18,hd,hho,hlen,hr,hlt,Nat.zero_add,a1,a2,a3,a4])));refine owp_useQ (digit_c (c:=c)) (by(try simp only[Ty.w,simprocAttr,g4,g16,g17,g18,hd,hho,hlen,hr,hlt,Nat.zero_add,a1,a2,a3,a4,hg]);try rfl) ?_;simp(maxSteps:=2000000) only[Ty.w,simprocAttr,g4,g16,g17,g18,hd,hho,hlen,hr,hlt,Nat.zero_add,a1,a2,a3,a4,hg];(repeat'(first|refine a_seq fun K hK=>?_|(refine a_block ?_)|((first|refine a_regionS ?_|refine a_region (fun K hK=>?_)|refine a_ret ?_);simp(maxSteps:=2000000) only[Ty.w,simprocAttr,g4,g16,g17,g18,hd,hho,hlen,hr,hlt,Nat.zero_add,a1,a2,a3,a4,hg,w7])|((first|refine a_skip ?_|refine a_exit ?_);try simp only[pst0,simprocAttr])|(refine a_cond _ (by(try simp(maxSteps:=2000000) only[Ty.w,simprocAttr,g4,g16,g17,g18,hd,hho,hlen,hr,hlt,Nat.zero_add,a1,a2,a3,a4,hg,w7]);rfl) (fun hb=>?_) (fun hb=>?_)<;>(try simp only[hb0,decide_eq_true_eq,decide_eq_false_iff_not,simprocAttr]at hb)<;>(try(exfalso;omega)))|(with_reducible refine ite_in (fun hb=>?_) (fun hb=>?_)<;>(try simp only[Decidable.not_not]at hb)<;>(try simp only[hb,if_true,if_false,not_false_eq_true,not_true_eq_false, ↓reduceIte])<;>(try simp only[hb0,decide_eq_true_eq,decide_eq_false_iff_not,simprocAttr]at hb)<;>(try(exfalso;omega)))|((first|refine hK _ _ ?_|(clear hK;refine hK _ _ ?_)|(clear hK;clear hK;refine hK _ _ ?_)|(clear hK;clear hK;clear hK;refine hK _ _ ?_));clear hK;try simp only[pst0,simprocAttr])|(rw[if_pos];rotate_left 1;omega;simp(maxSteps:=2000000) only[Ty.w,simprocAttr,g4,g16,g17,g18,hd,hho,hlen,hr,hlt,Nat.zero_add,a1,a2,a3,a4,hg,w7])));exact⟨s.data.toList.length-(k+1),by omega,k+1,by simp,by omega,rfl,hI.keep hx (by simp[lowB,hup,hw])⟩
      |false=>
       cases hs2:signs.contains c with
       |true=>
        have hw:wB c=true:=(by simp only[wB,hs2,Bool.or_true]);have hfi:decide (firstIdx ⟨#[45,95,63,58,60,62,61,43,42]⟩ c≥0)=true:=(by rw[firstIdx_ge];exact hs2);(repeat'(first|refine a_seq fun K hK=>?_|(refine a_block ?_)|((first|refine a_regionS ?_|refine a_region (fun K hK=>?_)|refine a_ret ?_);simp(maxSteps:=2000000) only[Ty.w,simprocAttr,g4,g16,g17,g18,hd,hho,hlen,hr,hlt,Nat.zero_add,a1,a2,a3,a4])|((first|refine a_skip ?_|refine a_exit ?_);try simp only[pst0,simprocAttr])|(refine a_cond _ (by(try simp(maxSteps:=2000000) only[Ty.w,simprocAttr,g4,g16,g17,g18,hd,hho,hlen,hr,hlt,Nat.zero_add,a1,a2,a3,a4]);rfl) (fun hb=>?_) (fun hb=>?_)<;>(try simp only[hb0,decide_eq_true_eq,decide_eq_false_iff_not,simprocAttr]at hb)<;>(try(exfalso;omega)))|(with_reducible refine ite_in (fun hb=>?_) (fun hb=>?_)<;>(try simp only[Decidable.not_not]at hb)<;>(try simp only[hb,if_true,if_false,not_false_eq_true,not_true_eq_false, ↓reduceIte])<;>(try simp only[hb0,decide_eq_true_eq,decide_eq_false_iff_not,simprocAttr]at hb)<;>(try(exfalso;omega)))|((first|refine hK _ _ ?_|(clear hK;refine hK _ _ ?_)|(clear hK;clear hK;refine hK _ _ ?_)|(clear hK;clear hK;clear hK;refine hK _ _ ?_));clear hK;try simp only[pst0,simprocAttr])|(rw[if_pos];rotate_left 1;omega;simp(maxSteps:=2000000) only[Ty.w,simprocAttr,g4,g16,g17,g18,hd,hho,hlen,hr,hlt,Nat.zero_add,a1,a2,a3,a4])));refine owp_useQ (digit_c (c:=c)) (by(try simp only[Ty.w,simprocAttr,g4,g16,g17,g18,hd,hho,hlen,hr,hlt,Nat.zero_add,a1,a2,a3,a4,hg]);try rfl) ?_;simp(maxSteps:=2000000) only[Ty.w,simprocAttr,g4,g16,g17,g18,hd,hho,hlen,hr,hlt,Nat.zero_add,a1,a2,a3,a4,hg];(repeat'(first|refine a_seq fun K hK=>?_|(refine a_block ?_)|((first|refine a_regionS ?_|refine a_region (fun K hK=>?_)|refine a_ret ?_);simp(maxSteps:=2000000) only[Ty.w,simprocAttr,g4,g16,g17,g18,hd,hho,hlen,hr,hlt,Nat.zero_add,a1,a2,a3,a4,hg])|((first|refine a_skip ?_|refine a_exit ?_);try simp only[pst0,simprocAttr])|(refine a_cond _ (by(try simp(maxSteps:=2000000) only[Ty.w,simprocAttr,g4,g16,g17,g18,hd,hho,hlen,hr,hlt,Nat.zero_add,a1,a2,a3,a4,hg]);rfl) (fun hb=>?_) (fun hb=>?_)<;>(try simp only[hb0,decide_eq_true_eq,decide_eq_false_iff_not,simprocAttr]at hb)<;>(try(exfalso;omega)))|(with_reducible refine ite_in (fun hb=>?_) (fun hb=>?_)<;>(try simp only[Decidable.not_not]at hb)<;>(try simp only[hb,if_true,if_false,not_false_eq_true,not_true_eq_false, ↓reduceIte])<;>(try simp only[hb0,decide_eq_true_eq,decide_eq_false_iff_not,simprocAttr]at hb)<;>(try(exfalso;omega)))|((first|refine hK _ _ ?_|(clear hK;refine hK _ _ ?_)|(clear hK;clear hK;refine hK _ _ ?_)|(clear hK;clear hK;clear hK;refine hK _ _ ?_));clear hK;try simp only[pst0,simprocAttr])|(rw[if_pos];rotate_left 1;omega;simp(maxSteps:=2000000) only[Ty.w,simprocAttr,g4,g16,g17,g18,hd,hho,hlen,hr,hlt,Nat.zero_add,a1,a2,a3,a4,hg])));refine owp_useQ (indexByte_c (s:=⟨#[45,95,63,58,60,62,61,43,42]⟩) (c:=c)) (by(try simp only[Ty.w,simprocAttr,g4,g16,g17,g18,hd,hho,hlen,hr,hlt,Nat.zero_add,a1,a2,a3,a4,hg,hfi]);try rfl) ?_;simp(maxSteps:=2000000) only[Ty.w,simprocAttr,g4,g16,g17,g18,hd,hho,hlen,hr,hlt,Nat.zero_add,a1,a2,a3,a4,hg,hfi]
        (repeat'(first|refine a_seq fun K hK=>?_|(refine a_block ?_)|((first|refine a_regionS ?_|refine a_region (fun K hK=>?_)|refine a_ret ?_);simp(maxSteps:=2000000) only[Ty.w,simprocAttr,g4,g16,g17,g18,hd,hho,hlen,hr,hlt,Nat.zero_add,a1,a2,a3,a4,hg,hfi,w7])|((first|refine a_skip ?_|refine a_exit ?_);try simp only[pst0,simprocAttr])|(refine a_cond _ (by(try simp(maxSteps:=2000000) only[Ty.w,simprocAttr,g4,g16,g17,g18,hd,hho,hlen,hr,hlt,Nat.zero_add,a1,a2,a3,a4,hg,hfi,w7]);rfl) (fun hb=>?_) (fun hb=>?_)<;>(try simp only[hb0,decide_eq_true_eq,decide_eq_false_iff_not,simprocAttr]at hb)<;>(try(exfalso;omega)))|(with_reducible refine ite_in (fun hb=>?_) (fun hb=>?_)<;>(try simp only[Decidable.not_not]at hb)<;>(try simp only[hb,if_true,if_false,not_false_eq_true,not_true_eq_false, ↓reduceIte])<;>(try simp only[hb0,decide_eq_true_eq,decide_eq_false_iff_not,simprocAttr]at hb)<;>(try(exfalso;omega)))|((first|refine hK _ _ ?_|(clear hK;refine hK _ _ ?_)|(clear hK;clear hK;refine hK _ _ ?_)|(clear hK;clear hK;clear hK;refine hK _ _ ?_));clear hK;try simp only[pst0,simprocAttr])|(rw[if_pos];rotate_left 1;omega;simp(maxSteps:=2000000) only[Ty.w,simprocAttr,g4,g16,g17,g18,hd,hho,hlen,hr,hlt,Nat.zero_add,a1,a2,a3,a4,hg,hfi,w7])));exact⟨s.data.toList.length-(k+1),by omega,k+1,by simp,by omega,rfl,hI.keep hx (by simp[lowB,hup,hw])⟩
       |false=>
        have hw:wB c=false:=(by simp only[wB,hs2,hg,hlet,Bool.or_false]);have hfi:decide (firstIdx ⟨#[45,95,63,58,60,62,61,43,42]⟩ c≥0)=false:=(by rw[firstIdx_ge];exact hs2);(repeat'(first|refine a_seq fun K hK=>?_|(refine a_block ?_)|((first|refine a_regionS ?_|refine a_region (fun K hK=>?_)|refine a_ret ?_);simp(maxSteps:=2000000) only[Ty.w,simprocAttr,g4,g16,g17,g18,hd,hho,hlen,hr,hlt,Nat.zero_add,a1,a2,a3,a4])|((first|refine a_skip ?_|refine a_exit ?_);try simp only[pst0,simprocAttr])|(refine a_cond _ (by(try simp(maxSteps:=2000000) only[Ty.w,simprocAttr,g4,g16,g17,g18,hd,hho,hlen,hr,hlt,Nat.zero_add,a1,a2,a3,a4]);rfl) (fun hb=>?_) (fun hb=>?_)<;>(try simp only[hb0,decide_eq_true_eq,decide_eq_false_iff_not,simprocAttr]at hb)<;>(try(exfalso;omega)))|(with_reducible refine ite_in (fun hb=>?_) (fun hb=>?_)<;>(try simp only[Decidable.not_not]at hb)<;>(try simp only[hb,if_true,if_false,not_false_eq_true,not_true_eq_false, ↓reduceIte])<;>(try simp only[hb0,decide_eq_true_eq,decide_eq_false_iff_not,simprocAttr]at hb)<;>(try(exfalso;omega)))|((first|refine hK _ _ ?_|(clear hK;refine hK _ _ ?_)|(clear hK;clear hK;refine hK _ _ ?_)|(clear hK;clear hK;clear hK;refine hK _ _ ?_));clear hK;try simp only[pst0,simprocAttr])|(rw[if_pos];rotate_left 1;omega;simp(maxSteps:=2000000) only[Ty.w,simprocAttr,g4,g16,g17,g18,hd,hho,hlen,hr,hlt,Nat.zero_add,a1,a2,a3,a4])));refine owp_useQ (digit_c (c:=c)) (by(try simp only[Ty.w,simprocAttr,g4,g16,g17,g18,hd,hho,hlen,hr,hlt,Nat.zero_add,a1,a2,a3,a4,hg]);try rfl) ?_;simp(maxSteps:=2000000) only[Ty.w,simprocAttr,g4,g16,g17,g18,hd,hho,hlen,hr,hlt,Nat.zero_add,a1,a2,a3,a4,hg];(repeat'(first|refine a_seq fun K hK=>?_|(refine a_block ?_)|((first|refine a_regionS ?_|refine a_region (fun K hK=>?_)|refine a_ret ?_);simp(maxSteps:=2000000) only[Ty.w,simprocAttr,g4,g16,g17,g18,hd,hho,hlen,hr,hlt,Nat.zero_add,a1,a2,a3,a4,hg])|((first|refine a_skip ?_|refine a_exit ?_);try simp only[pst0,simprocAttr])|(refine a_cond _ (by(try simp(maxSteps:=2000000) only[Ty.w,simprocAttr,g4,g16,g17,g18,hd,hho,hlen,hr,hlt,Nat.zero_add,a1,a2,a3,a4,hg]);rfl) (fun hb=>?_) (fun hb=>?_)<;>(try simp only[hb0,decide_eq_true_eq,decide_eq_false_iff_not,simprocAttr]at hb)<;>(try(exfalso;omega)))|(with_reducible refine ite_in (fun hb=>?_) (fun hb=>?_)<;>(try simp only[Decidable.not_not]at hb)<;>(try simp only[hb,if_true,if_false,not_false_eq_true,not_true_eq_false, ↓reduceIte])<;>(try simp only[hb0,decide_eq_true_eq,decide_eq_false_iff_not,simprocAttr]at hb)<;>(try(exfalso;omega)))|((first|refine hK _ _ ?_|(clear hK;refine hK _ _ ?_)|(clear hK;clear hK;refine hK _ _ ?_)|(clear hK;clear hK;clear hK;refine hK _ _ ?_));clear hK;try simp only[pst0,simprocAttr])|(rw[if_pos];rotate_left 1;omega;simp(maxSteps:=2000000) only[Ty.w,simprocAttr,g4,g16,g17,g18,hd,hho,hlen,hr,hlt,Nat.zero_add,a1,a2,a3,a4,hg])));refine owp_useQ (indexByte_c (s:=⟨#[45,95,63,58,60,62,61,43,42]⟩) (c:=c)) (by(try simp only[Ty.w,simprocAttr,g4,g16,g17,g18,hd,hho,hlen,hr,hlt,Nat.zero_add,a1,a2,a3,a4,hg,hfi]);try rfl) ?_;simp(maxSteps:=2000000) only[Ty.w,simprocAttr,g4,g16,g17,g18,hd,hho,hlen,hr,hlt,Nat.zero_add,a1,a2,a3,a4,hg,hfi]
        (repeat'(first|refine a_seq fun K hK=>?_|(refine a_block ?_)|((first|refine a_regionS ?_|refine a_region (fun K hK=>?_)|refine a_ret ?_);simp(maxSteps:=2000000) only[Ty.w,simprocAttr,g4,g16,g17,g18,hd,hho,hlen,hr,hlt,Nat.zero_add,a1,a2,a3,a4,hg,hfi])|((first|refine a_skip ?_|refine a_exit ?_);try simp only[pst0,simprocAttr])|(refine a_cond _ (by(try simp(maxSteps:=2000000) only[Ty.w,simprocAttr,g4,g16,g17,g18,hd,hho,hlen,hr,hlt,Nat.zero_add,a1,a2,a3,a4,hg,hfi]);rfl) (fun hb=>?_) (fun hb=>?_)<;>(try simp only[hb0,decide_eq_true_eq,decide_eq_false_iff_not,simprocAttr]at hb)<;>(try(exfalso;omega)))|(with_reducible refine ite_in (fun hb=>?_) (fun hb=>?_)<;>(try simp only[Decidable.not_not]at hb)<;>(try simp only[hb,if_true,if_false,not_false_eq_true,not_true_eq_false, ↓reduceIte])<;>(try simp only[hb0,decide_eq_true_eq,decide_eq_false_iff_not,simprocAttr]at hb)<;>(try(exfalso;omega)))|((first|refine hK _ _ ?_|(clear hK;refine hK _ _ ?_)|(clear hK;clear hK;refine hK _ _ ?_)|(clear hK;clear hK;clear hK;refine hK _ _ ?_));clear hK;try simp only[pst0,simprocAttr])|(rw[if_pos];rotate_left 1;omega;simp(maxSteps:=2000000) only[Ty.w,simprocAttr,g4,g16,g17,g18,hd,hho,hlen,hr,hlt,Nat.zero_add,a1,a2,a3,a4,hg,hfi])));exact⟨bad (by simp[lowB,hup,hw]),hgr⟩
    ·have hd:decide ((k:Int)<(s.data.toList.length:Int))=false:=(by simp;omega);have hke:k=s.data.toList.length:=(by omega);subst hke;obtain⟨p,hp,ho⟩:=hI.ex;rw[List.take_length]at hp;rw[List.drop_length,List.append_nil]at ho;have hpl:=lowL_len hp;have hlen:(bytesR p).length=s.data.toList.length:=(by rw[bytesR_len];exact hpl);have htk:List.take s.data.toList.length (bytesR p)=bytesR p:=(by rw[List.take_of_length_le (by omega)]);have hbr:=byteRow_bytesR p;(repeat'(first|refine a_seq fun K hK=>?_|(refine a_block ?_)|((first|refine a_regionS ?_|refine a_region (fun K hK=>?_)|refine a_ret ?_);simp(maxSteps:=2000000) only[Ty.w,simprocAttr,g4,g16,g17,g18,hd,ho,hlen,htk,hbr,Nat.zero_add])|((first|refine a_skip ?_|refine a_exit ?_);try simp only[pst0,simprocAttr])|(refine a_cond _ (by(try simp(maxSteps:=2000000) only[Ty.w,simprocAttr,g4,g16,g17,g18,hd,ho,hlen,htk,hbr,Nat.zero_add]);rfl) (fun hb=>?_) (fun hb=>?_)<;>(try simp only[hb0,decide_eq_true_eq,decide_eq_false_iff_not,simprocAttr]at hb)<;>(try(exfalso;omega)))|(with_reducible refine ite_in (fun hb=>?_) (fun hb=>?_)<;>(try simp only[Decidable.not_not]at hb)<;>(try simp only[hb,if_true,if_false,not_false_eq_true,not_true_eq_false, ↓reduceIte])<;>(try simp only[hb0,decide_eq_true_eq,decide_eq_false_iff_not,simprocAttr]at hb)<;>(try(exfalso;omega)))|((first|refine hK _ _ ?_|(clear hK;refine hK _ _ ?_)|(clear hK;clear hK;refine hK _ _ ?_)|(clear hK;clear hK;clear hK;refine hK _ _ ?_));clear hK;try simp only[pst0,simprocAttr])|(rw[if_pos];rotate_left 1;omega;simp(maxSteps:=2000000) only[Ty.w,simprocAttr,g4,g16,g17,g18,hd,ho,hlen,htk,hbr,Nat.zero_add])));rw[hS,hp];exact⟨rfl,hI.grow⟩
end Go.Proofs.YtnldekadkjdbcaaGreat
namespace Go.Proofs.YtnldekadkjdbcaaGreat
open Go.AM
set_option maxHeartbeats 2000000
set_option maxRecDepth 20000
theorem drop_of_get{α:Type}{l:List α}{k:Nat}{a:α}(h:l[k]? =some a):l.drop k=a::l.drop (k+1):=by
 obtain⟨hl,rfl⟩:=List.getElem?_eq_some_iff.1 h;exact List.drop_eq_getElem_cons hl
end Go.Proofs.YtnldekadkjdbcaaGreat
namespace Go.Proofs.YtnldekadkjdbcaaGreat
open Go.AM
set_option maxHeartbeats 2000000
set_option maxRecDepth 20000
structure GrowX(h:Heap)(id:Nat)(o:AObj)(h':Heap):Prop where
 le:h.next≤h'.next
 old: ∀ i,i<h.next→i≠id→h'.obj i=h.obj i
 at_:h'.obj id=some o
theorem GrowX.new{h h':Heap}{id:Nat}{o o2:AObj}(g:GrowX h id o h')(hid:id<h.next):GrowX h id o (h'.new o2):=
 ⟨Nat.le_trans g.le (by simp[Heap.new]),fun i hi hne=>by simp only[Heap.new];rw[if_neg (by have:=g.le;omega)];exact g.old i hi hne,by simp only[Heap.new];rw[if_neg (by have:=g.le;omega)];exact g.at_⟩
theorem GrowX.set{h h':Heap}{id j:Nat}{o o2:AObj}(g:GrowX h id o h')(hid:id<h.next)(hj:h.next≤j):GrowX h id o (h'.set j o2):=
 ⟨g.le,fun i hi hne=>by simp only[Heap.set];rw[if_neg (by omega)];exact g.old i hi hne,by simp only[Heap.set];rw[if_neg (by omega)];exact g.at_⟩
theorem GrowX.put{h h':Heap}{id:Nat}{o o2:AObj}(g:GrowX h id o h'):GrowX h id o2 (h'.set id o2):=
 ⟨g.le,fun i hi hne=>by simp only[Heap.set];rw[if_neg hne];exact g.old i hi hne,by simp[Heap.set]⟩
theorem GrowX.refl{h:Heap}{id:Nat}{o:AObj}(ho:h.obj id=some o):GrowX h id o h:=⟨Nat.le_refl _,fun _ _ _=>rfl,ho⟩
theorem PCall.quietX{P:Program}{f:FuncId}{args:List PV}{h:Heap}{v:Value}{id:Nat}{o o0:AObj}(hb:hasBody P f=true)(hid:h.obj id=some o0)(hfl:inNO h.next o)(hc:PCall P f args h fun r h'=>r= .sc v∧GrowX h id o h'):
  PCall P f args h fun r h'=>r= .sc v∧h'=h.set id o:=by
 refine pcall_wf hb fun hw=>PCall.drop (hc.mono ?_);rintro r h' ⟨rfl,g⟩;refine⟨.sc v,h.set id o,⟨rfl,rfl⟩,by simp only[FrzTo],Nat.le_refl _,fun i oo ho=>?_⟩;have hlt:=hw id (by rw[hid];try rfl);simp only[Heap.set]at ho;split at ho
 ·rename_i hi;subst hi;simp at ho;subst ho;exact⟨g.at_,hlt,.inr hfl⟩
 ·rename_i hi;have h1:=hw i (by rw[ho];try rfl);exact⟨by rw[g.old i h1 hi];exact ho,h1,.inl ho⟩
theorem lowS_size(s:ByteArray):(lowS s).1.size≤32:=by
 unfold lowS;split
 ·rename_i hc;split
  ·rename_i l hl;have h1:=lowL_len hl;have hsl:s.data.toList.length=s.size:=(by rw[Array.length_toList];try rfl);have:(ByteArray.mk l.toArray).size=l.length:=(by simp[ByteArray.size]);simp only[this];omega
  ·simp [ByteArray.size]
 ·simp [ByteArray.size]
mutual
theorem svalid_le: ∀ (x:Sx)(d n:Nat),(svalid x d n).1=true→(svalid x d n).2≤4096
 | .mk kind value line col text kids,d,n=>by
  unfold svalid;split
  ·simp
  ·rename_i hn;split
   ·intro _;simp only;omega
   ·split
    ·intro _;simp only;omega
    ·split
     ·split
      ·exact svalids_le kids (d+1) (n+1) (by omega)
      ·simp
     ·simp
theorem svalids_le: ∀ (l:List Sx)(d n:Nat),n≤4096→(svalids l d n).1=true→(svalids l d n).2≤4096
 |[],d,n,hn=>by simp[svalids,hn]
 |k::ks,d,n,hn=>by
  unfold svalids;have h1:=svalid_le k d n;split
  ·rename_i n' he;rw[he]at h1;exact svalids_le ks d n' (h1 rfl)
  ·simp
end
theorem natc(n:Nat):((n+1:Nat):Int)=(n:Int)+1:=by simp
def cntO(n:Nat):AObj:= .arr 1 [[.sc (.int .i64 n)]]
theorem valid_c: ∀ (x:Sx),x.ok→ ∀ (d n:Nat),d≤32→n≤4096→ ∀ (id:Nat)(h:Heap),h.obj id=some (cntO n)→
  PCall Tryz.prog 112 [.agg x.cells,.sc (.int .i64 d),.ptr id 0 0] h fun r h'=>r= .sc (.bool (svalid x d n).1)∧h'=h.set id (cntO (svalid x d n).2):=by
 refine Sx.ind ?_;intro kind value line col text kids ih hok d n hd hn id h ho;simp only[Sx.ok]at hok;obtain⟨_,_,ht,hk,hks⟩:=hok;rw[Sx.oks_iff]at hks;have hlen:=Sx.rows_len kids;have wn:IntKind.i64.wrap ((n:Int)+1)=(n:Int)+1:=by rw[wrap64 (by omega) (by omega)]
 refine pcall_wf Ty.hb_112 fun hwf=>?_;have hid:id<h.next:=hwf id (by rw[ho];try rfl)
 refine PCall.quietX Ty.hb_112 ho (by simp[cntO,inNO,inNR,inNL,inN]) ?_;have ho':=ho;simp only[cntO]at ho';have G1:GrowX h id (cntO (n+1)) (h.set id (.arr 1 [[.sc (.int .i64 ((n:Int)+1))]])):=by
  have:=(GrowX.refl ho).put (o2:=cntO (n+1));simp only[cntO,natc]at this⊢;exact this
 unfold svalid;simp only[Sx.cells];cases b0:decide ((n:Int)+1>4096)with
 |true=>
  rw[if_pos (by simp at b0;omega)];refine pcall_body (ow:=fun _=>false) (wf:=fun _=>false) Ty.mixed Tryz.func112 rfl Ty.hb_112 (by rw[Tryz.ntmps112];simp) ?_;rw[Tryz.ntmps112,Tryz.results112];repeat'(first|refine a_seq fun K hK=>?_|(refine a_block ?_)|((first|refine a_regionS ?_|refine a_region (fun K hK=>?_)|refine a_ret ?_);simp(maxSteps:=2000000) only[Ty.w,simprocAttr,ho',wn,b0])|((first|refine a_skip ?_|refine a_exit ?_);try simp only[pst0,simprocAttr])|(refine a_cond _ (by(try simp(maxSteps:=2000000) only[Ty.w,simprocAttr,ho',wn,b0]);rfl) (fun hb=>?_) (fun hb=>?_)<;>(try simp only[hb0,decide_eq_true_eq,decide_eq_false_iff_not,simprocAttr]at hb)<;>(try(exfalso;omega)))|(with_reducible refine ite_in (fun hb=>?_) (fun hb=>?_)<;>(try simp only[Decidable.not_not]at hb)<;>(try simp only[hb,if_true,if_false,not_false_eq_true,not_true_eq_false, ↓reduceIte])<;>(try simp only[hb0,decide_eq_true_eq,decide_eq_false_iff_not,simprocAttr]at hb)<;>(try(exfalso;omega)))|((first|refine hK _ _ ?_|(clear hK;refine hK _ _ ?_)|(clear hK;clear hK;refine hK _ _ ?_)|(clear hK;clear hK;clear hK;refine hK _ _ ?_));clear hK;try simp only[pst0,simprocAttr])|(rw[if_pos];rotate_left 1;omega;simp(maxSteps:=2000000) only[Ty.w,simprocAttr,ho',wn,b0]))
  first|exact G1|exact⟨rfl,G1⟩
 |false=>
  rw[if_neg (by simp at b0;omega)];cases k1:(kind==1)with
  |true=>
   have hk1:kind=1:=(by simpa using k1);rw[if_pos hk1];have e1:(kids.isEmpty)=((kids.length:Int)==0):=(by cases kids<;>simp;omega);have hlow:=fun h:Heap=>lower_c (h:=h) (s:=text);have hsz:=lowS_size text;have hW:wordB text=((lowS text).2&&((lowS text).1.data.toList==text.data.toList)&&!(numB (lowS text).1)):=rfl;generalize hL:lowS text=L at hlow hsz hW;obtain⟨w,ok⟩:=L;simp only at hlow hsz hW;have hwb:w.size≤bigN:=(by unfold bigN;omega);rw[hW];cases ok with
   |false=>
    refine pcall_body (ow:=fun _=>false) (wf:=fun _=>false) Ty.mixed Tryz.func112 rfl Ty.hb_112 (by rw[Tryz.ntmps112];simp) ?_;rw[Tryz.ntmps112,Tryz.results112];(repeat'(first|refine a_seq fun K hK=>?_|(refine a_block ?_)|((first|refine a_regionS ?_|refine a_region (fun K hK=>?_)|refine a_ret ?_);simp(maxSteps:=2000000) only[Ty.w,simprocAttr,ho',wn,b0,k1])|((first|refine a_skip ?_|refine a_exit ?_);try simp only[pst0,simprocAttr])|(refine a_cond _ (by(try simp(maxSteps:=2000000) only[Ty.w,simprocAttr,ho',wn,b0,k1]);rfl) (fun hb=>?_) (fun hb=>?_)<;>(try simp only[hb0,decide_eq_true_eq,decide_eq_false_iff_not,simprocAttr]at hb)<;>(try(exfalso;omega)))|(with_reducible refine ite_in (fun hb=>?_) (fun hb=>?_)<;>(try simp only[Decidable.not_not]at hb)<;>(try simp only[hb,if_true,if_false,not_false_eq_true,not_true_eq_false, ↓reduceIte])<;>(try simp only[hb0,decide_eq_true_eq,decide_eq_false_iff_not,simprocAttr]at hb)<;>(try(exfalso;omega)))|((first|refine hK _ _ ?_|(clear hK;refine hK _ _ ?_)|(clear hK;clear hK;refine hK _ _ ?_)|(clear hK;clear hK;clear hK;refine hK _ _ ?_));clear hK;try simp only[pst0,simprocAttr])|(rw[if_pos];rotate_left 1;omega;simp(maxSteps:=2000000) only[Ty.w,simprocAttr,ho',wn,b0,k1])));refine owp_useQ (hlow _) (by(try simp only[Ty.w,simprocAttr,ho',wn,b0,k1]);try rfl) ?_;simp(maxSteps:=2000000) only[Ty.w,simprocAttr,ho',wn,b0,k1];(repeat'(first|refine a_seq fun K hK=>?_|(refine a_block ?_)|((first|refine a_regionS ?_|refine a_region (fun K hK=>?_)|refine a_ret ?_);simp(maxSteps:=2000000) only[Ty.w,simprocAttr,ho',wn,b0,k1])|((first|refine a_skip ?_|refine a_exit ?_);try simp only[pst0,simprocAttr])|(refine a_cond _ (by(try simp(maxSteps:=2000000) only[Ty.w,simprocAttr,ho',wn,b0,k1]);rfl) (fun hb=>?_) (fun hb=>?_)<;>(try simp only[hb0,decide_eq_true_eq,decide_eq_false_iff_not,simprocAttr]at hb)<;>(try(exfalso;omega)))|(with_reducible refine ite_in (fun hb=>?_) (fun hb=>?_)<;>(try simp only[Decidable.not_not]at hb)<;>(try simp only[hb,if_true,if_false,not_false_eq_true,not_true_eq_false, ↓reduceIte])<;>(try simp only[hb0,decide_eq_true_eq,decide_eq_false_iff_not,simprocAttr]at hb)<;>(try(exfalso;omega)))|((first|refine hK _ _ ?_|(clear hK;refine hK _ _ ?_)|(clear hK;clear hK;refine hK _ _ ?_)|(clear hK;clear hK;clear hK;refine hK _ _ ?_));clear hK;try simp only[pst0,simprocAttr])|(rw[if_pos];rotate_left 1;omega;simp(maxSteps:=2000000) only[Ty.w,simprocAttr,ho',wn,b0,k1])));first|exact G1|exact⟨rfl,G1⟩
   |true=>
    cases c1:(w.data.toList==text.data.toList)with
    |false=>
     refine pcall_body (ow:=fun _=>false) (wf:=fun _=>false) Ty.mixed Tryz.func112 rfl Ty.hb_112 (by rw[Tryz.ntmps112];simp) ?_;rw[Tryz.ntmps112,Tryz.results112];(repeat'(first|refine a_seq fun K hK=>?_|(refine a_block ?_)|((first|refine a_regionS ?_|refine a_region (fun K hK=>?_)|refine a_ret ?_);simp(maxSteps:=2000000) only[Ty.w,simprocAttr,ho',wn,b0,k1])|((first|refine a_skip ?_|refine a_exit ?_);try simp only[pst0,simprocAttr])|(refine a_cond _ (by(try simp(maxSteps:=2000000) only[Ty.w,simprocAttr,ho',wn,b0,k1]);rfl) (fun hb=>?_) (fun hb=>?_)<;>(try simp only[hb0,decide_eq_true_eq,decide_eq_false_iff_not,simprocAttr]at hb)<;>(try(exfalso;omega)))|(with_reducible refine ite_in (fun hb=>?_) (fun hb=>?_)<;>(try simp only[Decidable.not_not]at hb)<;>(try simp only[hb,if_true,if_false,not_false_eq_true,not_true_eq_false, ↓reduceIte])<;>(try simp only[hb0,decide_eq_true_eq,decide_eq_false_iff_not,simprocAttr]at hb)<;>(try(exfalso;omega)))|((first|refine hK _ _ ?_|(clear hK;refine hK _ _ ?_)|(clear hK;clear hK;refine hK _ _ ?_)|(clear hK;clear hK;clear hK;refine hK _ _ ?_));clear hK;try simp only[pst0,simprocAttr])|(rw[if_pos];rotate_left 1;omega;simp(maxSteps:=2000000) only[Ty.w,simprocAttr,ho',wn,b0,k1])));refine owp_useQ (hlow _) (by(try simp only[Ty.w,simprocAttr,ho',wn,b0,k1]);try rfl) ?_;simp(maxSteps:=2000000) only[Ty.w,simprocAttr,ho',wn,b0,k1];(repeat'(first|refine a_seq fun K hK=>?_|(refine a_block ?_)|((first|refine a_regionS ?_|refine a_region (fun K hK=>?_)|refine a_ret ?_);simp(maxSteps:=2000000) only[Ty.w,simprocAttr,ho',wn,b0,k1,c1])|((first|refine a_skip ?_|refine a_exit ?_);try simp only[pst0,simprocAttr])|(refine a_cond _ (by(try simp(maxSteps:=2000000) only[Ty.w,simprocAttr,ho',wn,b0,k1,c1]);rfl) (fun hb=>?_) (fun hb=>?_)<;>(try simp only[hb0,decide_eq_true_eq,decide_eq_false_iff_not,simprocAttr]at hb)<;>(try(exfalso;omega)))|(with_reducible refine ite_in (fun hb=>?_) (fun hb=>?_)<;>(try simp only[Decidable.not_not]at hb)<;>(try simp only[hb,if_true,if_false,not_false_eq_true,not_true_eq_false, ↓reduceIte])<;>(try simp only[hb0,decide_eq_true_eq,decide_eq_false_iff_not,simprocAttr]at hb)<;>(try(exfalso;omega)))|((first|refine hK _ _ ?_|(clear hK;refine hK _ _ ?_)|(clear hK;clear hK;refine hK _ _ ?_)|(clear hK;clear hK;clear hK;refine hK _ _ ?_));clear hK;try simp only[pst0,simprocAttr])|(rw[if_pos];rotate_left 1;omega;simp(maxSteps:=2000000) only[Ty.w,simprocAttr,ho',wn,b0,k1,c1])));first|exact G1|exact⟨rfl,G1⟩
    |true=>
     cases c2:numB w with
     |true=>
      refine pcall_body (ow:=fun _=>false) (wf:=fun _=>false) Ty.mixed Tryz.func112 rfl Ty.hb_112 (by rw[Tryz.ntmps112];simp) ?_;rw[Tryz.ntmps112,Tryz.results112];(repeat'(first|refine a_seq fun K hK=>?_|(refine a_block ?_)|((first|refine a_regionS ?_|refine a_region (fun K hK=>?_)|refine a_ret ?_);simp(maxSteps:=2000000) only[Ty.w,simprocAttr,ho',wn,b0,k1])|((first|refine a_skip ?_|refine a_exit ?_);try simp only[pst0,simprocAttr])|(refine a_cond _ (by(try simp(maxSteps:=2000000) only[Ty.w,simprocAttr,ho',wn,b0,k1]);rfl) (fun hb=>?_) (fun hb=>?_)<;>(try simp only[hb0,decide_eq_true_eq,decide_eq_false_iff_not,simprocAttr]at hb)<;>(try(exfalso;omega)))|(with_reducible refine ite_in (fun hb=>?_) (fun hb=>?_)<;>(try simp only[Decidable.not_not]at hb)<;>(try simp only[hb,if_true,if_false,not_false_eq_true,not_true_eq_false, ↓reduceIte])<;>(try simp only[hb0,decide_eq_true_eq,decide_eq_false_iff_not,simprocAttr]at hb)<;>(try(exfalso;omega)))|((first|refine hK _ _ ?_|(clear hK;refine hK _ _ ?_)|(clear hK;clear hK;refine hK _ _ ?_)|(clear hK;clear hK;clear hK;refine hK _ _ ?_));clear hK;try simp only[pst0,simprocAttr])|(rw[if_pos];rotate_left 1;omega;simp(maxSteps:=2000000) only[Ty.w,simprocAttr,ho',wn,b0,k1])));refine owp_useQ (hlow _) (by(try simp only[Ty.w,simprocAttr,ho',wn,b0,k1]);try rfl) ?_;simp(maxSteps:=2000000) only[Ty.w,simprocAttr,ho',wn,b0,k1];(repeat'(first|refine a_seq fun K hK=>?_|(refine a_block ?_)|((first|refine a_regionS ?_|refine a_region (fun K hK=>?_)|refine a_ret ?_);simp(maxSteps:=2000000) only[Ty.w,simprocAttr,ho',wn,b0,k1,c1])|((first|refine a_skip ?_|refine a_exit ?_);try simp only[pst0,simprocAttr])|(refine a_cond _ (by(try simp(maxSteps:=2000000) only[Ty.w,simprocAttr,ho',wn,b0,k1,c1]);rfl) (fun hb=>?_) (fun hb=>?_)<;>(try simp only[hb0,decide_eq_true_eq,decide_eq_false_iff_not,simprocAttr]at hb)<;>(try(exfalso;omega)))|(with_reducible refine ite_in (fun hb=>?_) (fun hb=>?_)<;>(try simp only[Decidable.not_not]at hb)<;>(try simp only[hb,if_true,if_false,not_false_eq_true,not_true_eq_false, ↓reduceIte])<;>(try simp only[hb0,decide_eq_true_eq,decide_eq_false_iff_not,simprocAttr]at hb)<;>(try(exfalso;omega)))|((first|refine hK _ _ ?_|(clear hK;refine hK _ _ ?_)|(clear hK;clear hK;refine hK _ _ ?_)|(clear hK;clear hK;clear hK;refine hK _ _ ?_));clear hK;try simp only[pst0,simprocAttr])|(rw[if_pos];rotate_left 1;omega;simp(maxSteps:=2000000) only[Ty.w,simprocAttr,ho',wn,b0,k1,c1])));refine owp_useQ (numeric_c (s:=w) hwb) (by(try simp only[Ty.w,simprocAttr,ho',wn,b0,k1,c1,c2,Bool.not_true]);try rfl) ?_;simp(maxSteps:=2000000) only[Ty.w,simprocAttr,ho',wn,b0,k1,c1,c2,Bool.not_true];(repeat'(first|refine a_seq fun K hK=>?_|(refine a_block ?_)|((first|refine a_regionS ?_|refine a_region (fun K hK=>?_)|refine a_ret ?_);simp(maxSteps:=2000000) only[Ty.w,simprocAttr,ho',wn,b0,k1,c1,c2,Bool.not_true])|((first|refine a_skip ?_|refine a_exit ?_);try simp only[pst0,simprocAttr])|(refine a_cond _ (by(try simp(maxSteps:=2000000) only[Ty.w,simprocAttr,ho',wn,b0,k1,c1,c2,Bool.not_true]);rfl) (fun hb=>?_) (fun hb=>?_)<;>(try simp only[hb0,decide_eq_true_eq,decide_eq_false_iff_not,simprocAttr]at hb)<;>(try(exfalso;omega)))|(with_reducible refine ite_in (fun hb=>?_) (fun hb=>?_)<;>(try simp only[Decidable.not_not]at hb)<;>(try simp only[hb,if_true,if_false,not_false_eq_true,not_true_eq_false, ↓reduceIte])<;>(try simp only[hb0,decide_eq_true_eq,decide_eq_false_iff_not,simprocAttr]at hb)<;>(try(exfalso;omega)))|((first|refine hK _ _ ?_|(clear hK;refine hK _ _ ?_)|(clear hK;clear hK;refine hK _ _ ?_)|(clear hK;clear hK;clear hK;refine hK _ _ ?_));clear hK;try simp only[pst0,simprocAttr])|(rw[if_pos];rotate_left 1;omega;simp(maxSteps:=2000000) only[Ty.w,simprocAttr,ho',wn,b0,k1,c1,c2,Bool.not_true])));first|exact G1|exact⟨rfl,G1⟩
     |false=>
      cases c3:(value==0)with
      |false=>
       have c3':decide (value=0)=false:=(by simpa using c3);refine pcall_body (ow:=fun _=>false) (wf:=fun _=>false) Ty.mixed Tryz.func112 rfl Ty.hb_112 (by rw[Tryz.ntmps112];simp) ?_;rw[Tryz.ntmps112,Tryz.results112];(repeat'(first|refine a_seq fun K hK=>?_|(refine a_block ?_)|((first|refine a_regionS ?_|refine a_region (fun K hK=>?_)|refine a_ret ?_);simp(maxSteps:=2000000) only[Ty.w,simprocAttr,ho',wn,b0,k1])|((first|refine a_skip ?_|refine a_exit ?_);try simp only[pst0,simprocAttr])|(refine a_cond _ (by(try simp(maxSteps:=2000000) only[Ty.w,simprocAttr,ho',wn,b0,k1]);rfl) (fun hb=>?_) (fun hb=>?_)<;>(try simp only[hb0,decide_eq_true_eq,decide_eq_false_iff_not,simprocAttr]at hb)<;>(try(exfalso;omega)))|(with_reducible refine ite_in (fun hb=>?_) (fun hb=>?_)<;>(try simp only[Decidable.not_not]at hb)<;>(try simp only[hb,if_true,if_false,not_false_eq_true,not_true_eq_false, ↓reduceIte])<;>(try simp only[hb0,decide_eq_true_eq,decide_eq_false_iff_not,simprocAttr]at hb)<;>(try(exfalso;omega)))|((first|refine hK _ _ ?_|(clear hK;refine hK _ _ ?_)|(clear hK;clear hK;refine hK _ _ ?_)|(clear hK;clear hK;clear hK;refine hK _ _ ?_));clear hK;try simp only[pst0,simprocAttr])|(rw[if_pos];rotate_left 1;omega;simp(maxSteps:=2000000) only[Ty.w,simprocAttr,ho',wn,b0,k1])));refine owp_useQ (hlow _) (by(try simp only[Ty.w,simprocAttr,ho',wn,b0,k1]);try rfl) ?_;simp(maxSteps:=2000000) only[Ty.w,simprocAttr,ho',wn,b0,k1];(repeat'(first|refine a_seq fun K hK=>?_|(refine a_block ?_)|((first|refine a_regionS ?_|refine a_region (fun K hK=>?_)|refine a_ret ?_);simp(maxSteps:=2000000) only[Ty.w,simprocAttr,ho',wn,b0,k1,c1])|((first|refine a_skip ?_|refine a_exit ?_);try simp only[pst0,simprocAttr])|(refine a_cond _ (by(try simp(maxSteps:=2000000) only[Ty.w,simprocAttr,ho',wn,b0,k1,c1]);rfl) (fun hb=>?_) (fun hb=>?_)<;>(try simp only[hb0,decide_eq_true_eq,decide_eq_false_iff_not,simprocAttr]at hb)<;>(try(exfalso;omega)))|(with_reducible refine ite_in (fun hb=>?_) (fun hb=>?_)<;>(try simp only[Decidable.not_not]at hb)<;>(try simp only[hb,if_true,if_false,not_false_eq_true,not_true_eq_false, ↓reduceIte])<;>(try simp only[hb0,decide_eq_true_eq,decide_eq_false_iff_not,simprocAttr]at hb)<;>(try(exfalso;omega)))|((first|refine hK _ _ ?_|(clear hK;refine hK _ _ ?_)|(clear hK;clear hK;refine hK _ _ ?_)|(clear hK;clear hK;clear hK;refine hK _ _ ?_));clear hK;try simp only[pst0,simprocAttr])|(rw[if_pos];rotate_left 1;omega;simp(maxSteps:=2000000) only[Ty.w,simprocAttr,ho',wn,b0,k1,c1])));refine owp_useQ (numeric_c (s:=w) hwb) (by(try simp only[Ty.w,simprocAttr,ho',wn,b0,k1,c1,c2,c3,hlen,Bool.not_false]);try rfl) ?_;simp(maxSteps:=2000000) only[Ty.w,simprocAttr,ho',wn,b0,k1,c1,c2,c3,hlen,Bool.not_false];(repeat'(first|refine a_seq fun K hK=>?_|(refine a_block ?_)|((first|refine a_regionS ?_|refine a_region (fun K hK=>?_)|refine a_ret ?_);simp(maxSteps:=2000000) only[Ty.w,simprocAttr,ho',wn,b0,k1,c1,c2,c3,Bool.not_false])|((first|refine a_skip ?_|refine a_exit ?_);try simp only[pst0,simprocAttr])|(refine a_cond _ (by(try simp(maxSteps:=2000000) only[Ty.w,simprocAttr,ho',wn,b0,k1,c1,c2,c3,Bool.not_false]);rfl) (fun hb=>?_) (fun hb=>?_)<;>(try simp only[hb0,decide_eq_true_eq,decide_eq_false_iff_not,simprocAttr]at hb)<;>(try(exfalso;omega)))|(with_reducible refine ite_in (fun hb=>?_) (fun hb=>?_)<;>(try simp only[Decidable.not_not]at hb)<;>(try simp only[hb,if_true,if_false,not_false_eq_true,not_true_eq_false, ↓reduceIte])<;>(try simp only[hb0,decide_eq_true_eq,decide_eq_false_iff_not,simprocAttr]at hb)<;>(try(exfalso;omega)))|((first|refine hK _ _ ?_|(clear hK;refine hK _ _ ?_)|(clear hK;clear hK;refine hK _ _ ?_)|(clear hK;clear hK;clear hK;refine hK _ _ ?_));clear hK;try simp only[pst0,simprocAttr])|(rw[if_pos];rotate_left 1;omega;simp(maxSteps:=2000000) only[Ty.w,simprocAttr,ho',wn,b0,k1,c1,c2,c3,Bool.not_false])));first|exact G1|exact⟨by simp only[c3',Bool.and_false,Bool.false_and],G1⟩
      |true=>
       have c3':decide (value=0)=true:=(by simpa using c3);refine pcall_body (ow:=fun _=>false) (wf:=fun _=>false) Ty.mixed Tryz.func112 rfl Ty.hb_112 (by rw[Tryz.ntmps112];simp) ?_;rw[Tryz.ntmps112,Tryz.results112];(repeat'(first|refine a_seq fun K hK=>?_|(refine a_block ?_)|((first|refine a_regionS ?_|refine a_region (fun K hK=>?_)|refine a_ret ?_);simp(maxSteps:=2000000) only[Ty.w,simprocAttr,ho',wn,b0,k1])|((first|refine a_skip ?_|refine a_exit ?_);try simp only[pst0,simprocAttr])|(refine a_cond _ (by(try simp(maxSteps:=2000000) only[Ty.w,simprocAttr,ho',wn,b0,k1]);rfl) (fun hb=>?_) (fun hb=>?_)<;>(try simp only[hb0,decide_eq_true_eq,decide_eq_false_iff_not,simprocAttr]at hb)<;>(try(exfalso;omega)))|(with_reducible refine ite_in (fun hb=>?_) (fun hb=>?_)<;>(try simp only[Decidable.not_not]at hb)<;>(try simp only[hb,if_true,if_false,not_false_eq_true,not_true_eq_false, ↓reduceIte])<;>(try simp only[hb0,decide_eq_true_eq,decide_eq_false_iff_not,simprocAttr]at hb)<;>(try(exfalso;omega)))|((first|refine hK _ _ ?_|(clear hK;refine hK _ _ ?_)|(clear hK;clear hK;refine hK _ _ ?_)|(clear hK;clear hK;clear hK;refine hK _ _ ?_));clear hK;try simp only[pst0,simprocAttr])|(rw[if_pos];rotate_left 1;omega;simp(maxSteps:=2000000) only[Ty.w,simprocAttr,ho',wn,b0,k1])));refine owp_useQ (hlow _) (by(try simp only[Ty.w,simprocAttr,ho',wn,b0,k1]);try rfl) ?_;simp(maxSteps:=2000000) only[Ty.w,simprocAttr,ho',wn,b0,k1];(repeat'(first|refine a_seq fun K hK=>?_|(refine a_block ?_)|((first|refine a_regionS ?_|refine a_region (fun K hK=>?_)|refine a_ret ?_);simp(maxSteps:=2000000) only[Ty.w,simprocAttr,ho',wn,b0,k1,c1])|((first|refine a_skip ?_|refine a_exit ?_);try simp only[pst0,simprocAttr])|(refine a_cond _ (by(try simp(maxSteps:=2000000) only[Ty.w,simprocAttr,ho',wn,b0,k1,c1]);rfl) (fun hb=>?_) (fun hb=>?_)<;>(try simp only[hb0,decide_eq_true_eq,decide_eq_false_iff_not,simprocAttr]at hb)<;>(try(exfalso;omega)))|(with_reducible refine ite_in (fun hb=>?_) (fun hb=>?_)<;>(try simp only[Decidable.not_not]at hb)<;>(try simp only[hb,if_true,if_false,not_false_eq_true,not_true_eq_false, ↓reduceIte])<;>(try simp only[hb0,decide_eq_true_eq,decide_eq_false_iff_not,simprocAttr]at hb)<;>(try(exfalso;omega)))|((first|refine hK _ _ ?_|(clear hK;refine hK _ _ ?_)|(clear hK;clear hK;refine hK _ _ ?_)|(clear hK;clear hK;clear hK;refine hK _ _ ?_));clear hK;try simp only[pst0,simprocAttr])|(rw[if_pos];rotate_left 1;omega;simp(maxSteps:=2000000) only[Ty.w,simprocAttr,ho',wn,b0,k1,c1])));refine owp_useQ (numeric_c (s:=w) hwb) (by(try simp only[Ty.w,simprocAttr,ho',wn,b0,k1,c1,c2,c3,hlen,Bool.not_false]);try rfl) ?_;simp(maxSteps:=2000000) only[Ty.w,simprocAttr,ho',wn,b0,k1,c1,c2,c3,hlen,Bool.not_false];(repeat'(first|refine a_seq fun K hK=>?_|(refine a_block ?_)|((first|refine a_regionS ?_|refine a_region (fun K hK=>?_)|refine a_ret ?_);simp(maxSteps:=2000000) only[Ty.w,simprocAttr,ho',wn,b0,k1,c1,c2,c3,Bool.not_false,hlen])|((first|refine a_skip ?_|refine a_exit ?_);try simp only[pst0,simprocAttr])|(refine a_cond _ (by(try simp(maxSteps:=2000000) only[Ty.w,simprocAttr,ho',wn,b0,k1,c1,c2,c3,Bool.not_false,hlen]);rfl) (fun hb=>?_) (fun hb=>?_)<;>(try simp only[hb0,decide_eq_true_eq,decide_eq_false_iff_not,simprocAttr]at hb)<;>(try(exfalso;omega)))|(with_reducible refine ite_in (fun hb=>?_) (fun hb=>?_)<;>(try simp only[Decidable.not_not]at hb)<;>(try simp only[hb,if_true,if_false,not_false_eq_true,not_true_eq_false, ↓reduceIte])<;>(try simp only[hb0,decide_eq_true_eq,decide_eq_false_iff_not,simprocAttr]at hb)<;>(try(exfalso;omega)))|((first|refine hK _ _ ?_|(clear hK;refine hK _ _ ?_)|(clear hK;clear hK;refine hK _ _ ?_)|(clear hK;clear hK;clear hK;refine hK _ _ ?_));clear hK;try simp only[pst0,simprocAttr])|(rw[if_pos];rotate_left 1;omega;simp(maxSteps:=2000000) only[Ty.w,simprocAttr,ho',wn,b0,k1,c1,c2,c3,Bool.not_false,hlen])));exact⟨by simp only[c3',e1,Bool.not_false,Bool.true_and],G1⟩
  |false=>
   have hk1:¬ kind=1:=(by simpa using k1);rw[if_neg hk1];cases k2:(kind==2)with
   |true=>
    have hk2:kind=2:=(by simpa using k2);rw[if_pos hk2];have e1:(kids.isEmpty)=((kids.length:Int)==0):=(by cases kids<;>simp;omega);cases c1:(text.data.toList==(#[]:Array UInt8).toList)with
    |false=>
     refine pcall_body (ow:=fun _=>false) (wf:=fun _=>false) Ty.mixed Tryz.func112 rfl Ty.hb_112 (by rw[Tryz.ntmps112];simp) ?_;rw[Tryz.ntmps112,Tryz.results112];(repeat'(first|refine a_seq fun K hK=>?_|(refine a_block ?_)|((first|refine a_regionS ?_|refine a_region (fun K hK=>?_)|refine a_ret ?_);simp(maxSteps:=2000000) only[Ty.w,simprocAttr,ho',wn,b0,k1,k2,c1])|((first|refine a_skip ?_|refine a_exit ?_);try simp only[pst0,simprocAttr])|(refine a_cond _ (by(try simp(maxSteps:=2000000) only[Ty.w,simprocAttr,ho',wn,b0,k1,k2,c1]);rfl) (fun hb=>?_) (fun hb=>?_)<;>(try simp only[hb0,decide_eq_true_eq,decide_eq_false_iff_not,simprocAttr]at hb)<;>(try(exfalso;omega)))|(with_reducible refine ite_in (fun hb=>?_) (fun hb=>?_)<;>(try simp only[Decidable.not_not]at hb)<;>(try simp only[hb,if_true,if_false,not_false_eq_true,not_true_eq_false, ↓reduceIte])<;>(try simp only[hb0,decide_eq_true_eq,decide_eq_false_iff_not,simprocAttr]at hb)<;>(try(exfalso;omega)))|((first|refine hK _ _ ?_|(clear hK;refine hK _ _ ?_)|(clear hK;clear hK;refine hK _ _ ?_)|(clear hK;clear hK;clear hK;refine hK _ _ ?_));clear hK;try simp only[pst0,simprocAttr])|(rw[if_pos];rotate_left 1;omega;simp(maxSteps:=2000000) only[Ty.w,simprocAttr,ho',wn,b0,k1,k2,c1])));first|exact⟨by simp only[bEq,c1,Bool.false_and],G1⟩|(simp only[bEq,c1,e1,c2,Bool.true_and];exact G1)|exact G1
    |true=>
     cases c2:((kids.length:Int)==0)with
     |false=>
      refine pcall_body (ow:=fun _=>false) (wf:=fun _=>false) Ty.mixed Tryz.func112 rfl Ty.hb_112 (by rw[Tryz.ntmps112];simp) ?_;rw[Tryz.ntmps112,Tryz.results112];(repeat'(first|refine a_seq fun K hK=>?_|(refine a_block ?_)|((first|refine a_regionS ?_|refine a_region (fun K hK=>?_)|refine a_ret ?_);simp(maxSteps:=2000000) only[Ty.w,simprocAttr,ho',wn,b0,k1,k2,c1,c2,hlen])|((first|refine a_skip ?_|refine a_exit ?_);try simp only[pst0,simprocAttr])|(refine a_cond _ (by(try simp(maxSteps:=2000000) only[Ty.w,simprocAttr,ho',wn,b0,k1,k2,c1,c2,hlen]);rfl) (fun hb=>?_) (fun hb=>?_)<;>(try simp only[hb0,decide_eq_true_eq,decide_eq_false_iff_not,simprocAttr]at hb)<;>(try(exfalso;omega)))|(with_reducible refine ite_in (fun hb=>?_) (fun hb=>?_)<;>(try simp only[Decidable.not_not]at hb)<;>(try simp only[hb,if_true,if_false,not_false_eq_true,not_true_eq_false, ↓reduceIte])<;>(try simp only[hb0,decide_eq_true_eq,decide_eq_false_iff_not,simprocAttr]at hb)<;>(try(exfalso;omega)))|((first|refine hK _ _ ?_|(clear hK;refine hK _ _ ?_)|(clear hK;clear hK;refine hK _ _ ?_)|(clear hK;clear hK;clear hK;refine hK _ _ ?_));clear hK;try simp only[pst0,simprocAttr])|(rw[if_pos];rotate_left 1;omega;simp(maxSteps:=2000000) only[Ty.w,simprocAttr,ho',wn,b0,k1,k2,c1,c2,hlen])));first|exact⟨by simp only[bEq,c1,e1,c2,Bool.and_false,Bool.false_and],G1⟩|(simp only[bEq,c1,e1,c2,Bool.true_and];exact G1)|exact G1
     |true=>
      cases c3:decide (value≥ -1099511627776)with
      |false=>
       refine pcall_body (ow:=fun _=>false) (wf:=fun _=>false) Ty.mixed Tryz.func112 rfl Ty.hb_112 (by rw[Tryz.ntmps112];simp) ?_;rw[Tryz.ntmps112,Tryz.results112];(repeat'(first|refine a_seq fun K hK=>?_|(refine a_block ?_)|((first|refine a_regionS ?_|refine a_region (fun K hK=>?_)|refine a_ret ?_);simp(maxSteps:=2000000) only[Ty.w,simprocAttr,ho',wn,b0,k1,k2,c1,c2,c3,hlen])|((first|refine a_skip ?_|refine a_exit ?_);try simp only[pst0,simprocAttr])|(refine a_cond _ (by(try simp(maxSteps:=2000000) only[Ty.w,simprocAttr,ho',wn,b0,k1,k2,c1,c2,c3,hlen]);rfl) (fun hb=>?_) (fun hb=>?_)<;>(try simp only[hb0,decide_eq_true_eq,decide_eq_false_iff_not,simprocAttr]at hb)<;>(try(exfalso;omega)))|(with_reducible refine ite_in (fun hb=>?_) (fun hb=>?_)<;>(try simp only[Decidable.not_not]at hb)<;>(try simp only[hb,if_true,if_false,not_false_eq_true,not_true_eq_false, ↓reduceIte])<;>(try simp only[hb0,decide_eq_true_eq,decide_eq_false_iff_not,simprocAttr]at hb)<;>(try(exfalso;omega)))|((first|refine hK _ _ ?_|(clear hK;refine hK _ _ ?_)|(clear hK;clear hK;refine hK _ _ ?_)|(clear hK;clear hK;clear hK;refine hK _ _ ?_));clear hK;try simp only[pst0,simprocAttr])|(rw[if_pos];rotate_left 1;omega;simp(maxSteps:=2000000) only[Ty.w,simprocAttr,ho',wn,b0,k1,k2,c1,c2,c3,hlen])));have c3':decide (-1099511627776≤value)=false:=c3;first|exact⟨by simp only[bEq,c1,e1,c2,c3',Bool.and_false,Bool.false_and],G1⟩|(simp only[bEq,c1,e1,c2,Bool.true_and];exact G1)|exact G1
      |true=>
       refine pcall_body (ow:=fun _=>false) (wf:=fun _=>false) Ty.mixed Tryz.func112 rfl Ty.hb_112 (by rw[Tryz.ntmps112];simp) ?_;rw[Tryz.ntmps112,Tryz.results112];(repeat'(first|refine a_seq fun K hK=>?_|(refine a_block ?_)|((first|refine a_regionS ?_|refine a_region (fun K hK=>?_)|refine a_ret ?_);simp(maxSteps:=2000000) only[Ty.w,simprocAttr,ho',wn,b0,k1,k2,c1,c2,c3,hlen])|((first|refine a_skip ?_|refine a_exit ?_);try simp only[pst0,simprocAttr])|(refine a_cond _ (by(try simp(maxSteps:=2000000) only[Ty.w,simprocAttr,ho',wn,b0,k1,k2,c1,c2,c3,hlen]);rfl) (fun hb=>?_) (fun hb=>?_)<;>(try simp only[hb0,decide_eq_true_eq,decide_eq_false_iff_not,simprocAttr]at hb)<;>(try(exfalso;omega)))|(with_reducible refine ite_in (fun hb=>?_) (fun hb=>?_)<;>(try simp only[Decidable.not_not]at hb)<;>(try simp only[hb,if_true,if_false,not_false_eq_true,not_true_eq_false, ↓reduceIte])<;>(try simp only[hb0,decide_eq_true_eq,decide_eq_false_iff_not,simprocAttr]at hb)<;>(try(exfalso;omega)))|((first|refine hK _ _ ?_|(clear hK;refine hK _ _ ?_)|(clear hK;clear hK;refine hK _ _ ?_)|(clear hK;clear hK;clear hK;refine hK _ _ ?_));clear hK;try simp only[pst0,simprocAttr])|(rw[if_pos];rotate_left 1;omega;simp(maxSteps:=2000000) only[Ty.w,simprocAttr,ho',wn,b0,k1,k2,c1,c2,c3,hlen])));have c3':decide (-1099511627776≤value)=true:=c3;first|exact⟨by simp only[bEq,c1,e1,c2,c3',Bool.true_and],G1⟩|(simp only[bEq,c1,e1,c2,Bool.true_and];exact G1)|exact G1
   |false=>
    have hk2:¬ kind=2:=(by simpa using k2);rw[if_neg hk2];cases k3:(kind==3)with
    |false=>
     have hk3:¬ kind=3:=(by simpa using k3);rw[if_neg hk3];refine pcall_body (ow:=fun _=>false) (wf:=fun _=>false) Ty.mixed Tryz.func112 rfl Ty.hb_112 (by rw[Tryz.ntmps112];simp) ?_;rw[Tryz.ntmps112,Tryz.results112];(repeat'(first|refine a_seq fun K hK=>?_|(refine a_block ?_)|((first|refine a_regionS ?_|refine a_region (fun K hK=>?_)|refine a_ret ?_);simp(maxSteps:=2000000) only[Ty.w,simprocAttr,ho',wn,b0,k1,k2,k3])|((first|refine a_skip ?_|refine a_exit ?_);try simp only[pst0,simprocAttr])|(refine a_cond _ (by(try simp(maxSteps:=2000000) only[Ty.w,simprocAttr,ho',wn,b0,k1,k2,k3]);rfl) (fun hb=>?_) (fun hb=>?_)<;>(try simp only[hb0,decide_eq_true_eq,decide_eq_false_iff_not,simprocAttr]at hb)<;>(try(exfalso;omega)))|(with_reducible refine ite_in (fun hb=>?_) (fun hb=>?_)<;>(try simp only[Decidable.not_not]at hb)<;>(try simp only[hb,if_true,if_false,not_false_eq_true,not_true_eq_false, ↓reduceIte])<;>(try simp only[hb0,decide_eq_true_eq,decide_eq_false_iff_not,simprocAttr]at hb)<;>(try(exfalso;omega)))|((first|refine hK _ _ ?_|(clear hK;refine hK _ _ ?_)|(clear hK;clear hK;refine hK _ _ ?_)|(clear hK;clear hK;clear hK;refine hK _ _ ?_));clear hK;try simp only[pst0,simprocAttr])|(rw[if_pos];rotate_left 1;omega;simp(maxSteps:=2000000) only[Ty.w,simprocAttr,ho',wn,b0,k1,k2,k3])));first|exact G1|exact⟨rfl,G1⟩
    |true=>
     have hk3:kind=3:=(by simpa using k3);rw[if_pos hk3];cases c1:(text.data.toList==(#[]:Array UInt8).toList)with
     |false=>
      rw[if_neg (by simp[bEq,c1])];refine pcall_body (ow:=fun _=>false) (wf:=fun _=>false) Ty.mixed Tryz.func112 rfl Ty.hb_112 (by rw[Tryz.ntmps112];simp) ?_;rw[Tryz.ntmps112,Tryz.results112];(repeat'(first|refine a_seq fun K hK=>?_|(refine a_block ?_)|((first|refine a_regionS ?_|refine a_region (fun K hK=>?_)|refine a_ret ?_);simp(maxSteps:=2000000) only[Ty.w,simprocAttr,ho',wn,b0,k1,k2,k3,c1,Bool.not_false])|((first|refine a_skip ?_|refine a_exit ?_);try simp only[pst0,simprocAttr])|(refine a_cond _ (by(try simp(maxSteps:=2000000) only[Ty.w,simprocAttr,ho',wn,b0,k1,k2,k3,c1,Bool.not_false]);rfl) (fun hb=>?_) (fun hb=>?_)<;>(try simp only[hb0,decide_eq_true_eq,decide_eq_false_iff_not,simprocAttr]at hb)<;>(try(exfalso;omega)))|(with_reducible refine ite_in (fun hb=>?_) (fun hb=>?_)<;>(try simp only[Decidable.not_not]at hb)<;>(try simp only[hb,if_true,if_false,not_false_eq_true,not_true_eq_false, ↓reduceIte])<;>(try simp only[hb0,decide_eq_true_eq,decide_eq_false_iff_not,simprocAttr]at hb)<;>(try(exfalso;omega)))|((first|refine hK _ _ ?_|(clear hK;refine hK _ _ ?_)|(clear hK;clear hK;refine hK _ _ ?_)|(clear hK;clear hK;clear hK;refine hK _ _ ?_));clear hK;try simp only[pst0,simprocAttr])|(rw[if_pos];rotate_left 1;omega;simp(maxSteps:=2000000) only[Ty.w,simprocAttr,ho',wn,b0,k1,k2,k3,c1,Bool.not_false])));first|exact G1|exact⟨rfl,G1⟩
     |true=>
      cases c2:(value !=0)with
      |true=>
       rw[if_neg (by simp at c2;simp[c2])];refine pcall_body (ow:=fun _=>false) (wf:=fun _=>false) Ty.mixed Tryz.func112 rfl Ty.hb_112 (by rw[Tryz.ntmps112];simp) ?_;rw[Tryz.ntmps112,Tryz.results112];(repeat'(first|refine a_seq fun K hK=>?_|(refine a_block ?_)|((first|refine a_regionS ?_|refine a_region (fun K hK=>?_)|refine a_ret ?_);simp(maxSteps:=2000000) only[Ty.w,simprocAttr,ho',wn,b0,k1,k2,k3,c1,c2,Bool.not_true])|((first|refine a_skip ?_|refine a_exit ?_);try simp only[pst0,simprocAttr])|(refine a_cond _ (by(try simp(maxSteps:=2000000) only[Ty.w,simprocAttr,ho',wn,b0,k1,k2,k3,c1,c2,Bool.not_true]);rfl) (fun hb=>?_) (fun hb=>?_)<;>(try simp only[hb0,decide_eq_true_eq,decide_eq_false_iff_not,simprocAttr]at hb)<;>(try(exfalso;omega)))|(with_reducible refine ite_in (fun hb=>?_) (fun hb=>?_)<;>(try simp only[Decidable.not_not]at hb)<;>(try simp only[hb,if_true,if_false,not_false_eq_true,not_true_eq_false, ↓reduceIte])<;>(try simp only[hb0,decide_eq_true_eq,decide_eq_false_iff_not,simprocAttr]at hb)<;>(try(exfalso;omega)))|((first|refine hK _ _ ?_|(clear hK;refine hK _ _ ?_)|(clear hK;clear hK;refine hK _ _ ?_)|(clear hK;clear hK;clear hK;refine hK _ _ ?_));clear hK;try simp only[pst0,simprocAttr])|(rw[if_pos];rotate_left 1;omega;simp(maxSteps:=2000000) only[Ty.w,simprocAttr,ho',wn,b0,k1,k2,k3,c1,c2,Bool.not_true])));first|exact G1|exact⟨rfl,G1⟩
      |false=>
       cases c3:((d:Int)==32)with
       |true=>
        rw[if_neg (by simp at c3;simp;omega)];refine pcall_body (ow:=fun _=>false) (wf:=fun _=>false) Ty.mixed Tryz.func112 rfl Ty.hb_112 (by rw[Tryz.ntmps112];simp) ?_;rw[Tryz.ntmps112,Tryz.results112];(repeat'(first|refine a_seq fun K hK=>?_|(refine a_block ?_)|((first|refine a_regionS ?_|refine a_region (fun K hK=>?_)|refine a_ret ?_);simp(maxSteps:=2000000) only[Ty.w,simprocAttr,ho',wn,b0,k1,k2,k3,c1,c2,c3,Bool.not_true])|((first|refine a_skip ?_|refine a_exit ?_);try simp only[pst0,simprocAttr])|(refine a_cond _ (by(try simp(maxSteps:=2000000) only[Ty.w,simprocAttr,ho',wn,b0,k1,k2,k3,c1,c2,c3,Bool.not_true]);rfl) (fun hb=>?_) (fun hb=>?_)<;>(try simp only[hb0,decide_eq_true_eq,decide_eq_false_iff_not,simprocAttr]at hb)<;>(try(exfalso;omega)))|(with_reducible refine ite_in (fun hb=>?_) (fun hb=>?_)<;>(try simp only[Decidable.not_not]at hb)<;>(try simp only[hb,if_true,if_false,not_false_eq_true,not_true_eq_false, ↓reduceIte])<;>(try simp only[hb0,decide_eq_true_eq,decide_eq_false_iff_not,simprocAttr]at hb)<;>(try(exfalso;omega)))|((first|refine hK _ _ ?_|(clear hK;refine hK _ _ ?_)|(clear hK;clear hK;refine hK _ _ ?_)|(clear hK;clear hK;clear hK;refine hK _ _ ?_));clear hK;try simp only[pst0,simprocAttr])|(rw[if_pos];rotate_left 1;omega;simp(maxSteps:=2000000) only[Ty.w,simprocAttr,ho',wn,b0,k1,k2,k3,c1,c2,c3,Bool.not_true])));first|exact G1|exact⟨rfl,G1⟩
       |false=>
        rw[if_pos (by simp at c2 c3;exact⟨c1,c2,by omega⟩)];refine pcall_body (ow:=fun _=>false) (wf:=fun _=>false) Ty.mixed Tryz.func112 rfl Ty.hb_112 (by rw[Tryz.ntmps112];simp) ?_;rw[Tryz.ntmps112,Tryz.results112];(repeat'(first|refine a_seq fun K hK=>?_|(refine a_block ?_)|((first|refine a_regionS ?_|refine a_region (fun K hK=>?_)|refine a_ret ?_);simp(maxSteps:=2000000) only[Ty.w,simprocAttr,ho',wn,b0,k1,k2,k3,c1,c2,c3,Bool.not_true,hlen])|((first|refine a_skip ?_|refine a_exit ?_);try simp only[pst0,simprocAttr])|(refine a_cond _ (by(try simp(maxSteps:=2000000) only[Ty.w,simprocAttr,ho',wn,b0,k1,k2,k3,c1,c2,c3,Bool.not_true,hlen]);rfl) (fun hb=>?_) (fun hb=>?_)<;>(try simp only[hb0,decide_eq_true_eq,decide_eq_false_iff_not,simprocAttr]at hb)<;>(try(exfalso;omega)))|(with_reducible refine ite_in (fun hb=>?_) (fun hb=>?_)<;>(try simp only[Decidable.not_not]at hb)<;>(try simp only[hb,if_true,if_false,not_false_eq_true,not_true_eq_false, ↓reduceIte])<;>(try simp only[hb0,decide_eq_true_eq,decide_eq_false_iff_not,simprocAttr]at hb)<;>(try(exfalso;omega)))|((first|refine hK _ _ ?_|(clear hK;refine hK _ _ ?_)|(clear hK;clear hK;refine hK _ _ ?_)|(clear hK;clear hK;clear hK;refine hK _ _ ?_));clear hK;try simp only[pst0,simprocAttr])|(rw[if_pos];rotate_left 1;omega;simp(maxSteps:=2000000) only[Ty.w,simprocAttr,ho',wn,b0,k1,k2,k3,c1,c2,c3,Bool.not_true,hlen])));generalize hV:svalids kids (d+1) (n+1)=V;refine a_loop (fun c S h'=>S 1= .sc (.int .i64 d)∧S 2= .ptr id 0 0∧S 89= .imm 6 (Sx.rows kids)∧S 90= .sc (.int .i64 kids.length)∧ ∃ k n':Nat,S 91= .sc (.int .i64 k)∧k≤kids.length∧c=kids.length-k∧n'≤4096∧GrowX h id (cntO n') h'∧V=svalids (kids.drop k) (d+1) n') kids.length ?_ ?_
        ·simp only[Ty.w,simprocAttr];exact⟨0,n+1,rfl,by omega,rfl,by simp at b0;omega,G1,hV.symm⟩
        ·clear G1 ho';rintro c S h' ⟨g1,g2,g89,g90,k,n',g91,hkl,rfl,hn',hG,hinv⟩;by_cases hlt:k<kids.length
         ·have hdk:decide ((k:Int)<(kids.length:Int))=true:=(by simp;omega);have w7:IntKind.i64.wrap ((k:Int)+1)=k+1:=(by unfold bigN at hk;rw[wrap64 (by omega) (by omega)]);have wd:IntKind.i64.wrap ((d:Int)+1)=(d:Int)+1:=(by rw[wrap64 (by omega) (by omega)]);obtain⟨e,hx⟩: ∃ e,kids[k]? =some e:=⟨_,List.getElem?_eq_getElem hlt⟩;have hmem:=List.mem_of_getElem? hx;have hc:=ih e hmem (hks e hmem) (d+1) n' (by simp at c3;omega) hn' id;have hle:=svalid_le e (d+1) n';rw[drop_of_get hx]at hinv;simp only[svalids]at hinv;generalize svalid e (d+1) n'=W at hc hle hinv;obtain⟨b,n''⟩:=W;simp only[natc]at hc hle hinv;have hr:=Sx.rows_get hx;have hne:id≠h'.next:=by have:=hG.le;omega
          have hne':(h'.next=id)=False:=(by simp;omega);have hc2:=hc ((h'.new (.arr 6 [[.sc (.int .i64 0),.sc (.int .i64 0),.sc (.int .i64 0),.sc (.int .i64 0),.sc (.string ⟨#[]⟩),.sc (.slice none 0 0)]])).set h'.next (.arr 6 [e.cells])) (by simp only[Heap.set,Heap.new];rw[if_neg hne,if_neg hne];exact hG.at_);have hG2:GrowX h id (cntO n') ((h'.new (.arr 6 [[.sc (.int .i64 0),.sc (.int .i64 0),.sc (.int .i64 0),.sc (.int .i64 0),.sc (.string ⟨#[]⟩),.sc (.slice none 0 0)]])).set h'.next (.arr 6 [e.cells])):=(hG.new hid).set hid hG.le;obtain⟨ki,va,li,co,te,ks⟩:=e;simp only[Sx.cells]at hr hc2 hG2;(repeat'(first|refine a_seq fun K hK=>?_|(refine a_block ?_)|((first|refine a_regionS ?_|refine a_region (fun K hK=>?_)|refine a_ret ?_);simp(maxSteps:=2000000) only[Ty.w,simprocAttr,g1,g2,g89,g90,g91,hlen,hdk,hr,wd])|((first|refine a_skip ?_|refine a_exit ?_);try simp only[pst0,simprocAttr])|(refine a_cond _ (by(try simp(maxSteps:=2000000) only[Ty.w,simprocAttr,g1,g2,g89,g90,g91,hlen,hdk,hr,wd]);rfl) (fun hb=>?_) (fun hb=>?_)<;>(try simp only[hb0,decide_eq_true_eq,decide_eq_false_iff_not,simprocAttr]at hb)<;>(try(exfalso;omega)))|(with_reducible refine ite_in (fun hb=>?_) (fun hb=>?_)<;>(try simp only[Decidable.not_not]at hb)<;>(try simp only[hb,if_true,if_false,not_false_eq_true,not_true_eq_false, ↓reduceIte])<;>(try simp only[hb0,decide_eq_true_eq,decide_eq_false_iff_not,simprocAttr]at hb)<;>(try(exfalso;omega)))|((first|refine hK _ _ ?_|(clear hK;refine hK _ _ ?_)|(clear hK;clear hK;refine hK _ _ ?_)|(clear hK;clear hK;clear hK;refine hK _ _ ?_));clear hK;try simp only[pst0,simprocAttr])|(rw[if_pos];rotate_left 1;omega;simp(maxSteps:=2000000) only[Ty.w,simprocAttr,g1,g2,g89,g90,g91,hlen,hdk,hr,wd])));refine owp_useH (hc2) (by(try simp only[Ty.w,simprocAttr,g1,g2,g89,g90,g91,hlen,hdk,hr,wd]);try rfl) ?_;simp(maxSteps:=2000000) only[Ty.w,simprocAttr,g1,g2,g89,g90,g91,hlen,hdk,hr,wd];cases b with
          |false=>
           subst hinv;(repeat'(first|refine a_seq fun K hK=>?_|(refine a_block ?_)|((first|refine a_regionS ?_|refine a_region (fun K hK=>?_)|refine a_ret ?_);simp(maxSteps:=2000000) only[Ty.w,simprocAttr,g1,g2,g89,g90,g91,w7,Bool.not_false])|((first|refine a_skip ?_|refine a_exit ?_);try simp only[pst0,simprocAttr])|(refine a_cond _ (by(try simp(maxSteps:=2000000) only[Ty.w,simprocAttr,g1,g2,g89,g90,g91,w7,Bool.not_false]);rfl) (fun hb=>?_) (fun hb=>?_)<;>(try simp only[hb0,decide_eq_true_eq,decide_eq_false_iff_not,simprocAttr]at hb)<;>(try(exfalso;omega)))|(with_reducible refine ite_in (fun hb=>?_) (fun hb=>?_)<;>(try simp only[Decidable.not_not]at hb)<;>(try simp only[hb,if_true,if_false,not_false_eq_true,not_true_eq_false, ↓reduceIte])<;>(try simp only[hb0,decide_eq_true_eq,decide_eq_false_iff_not,simprocAttr]at hb)<;>(try(exfalso;omega)))|((first|refine hK _ _ ?_|(clear hK;refine hK _ _ ?_)|(clear hK;clear hK;refine hK _ _ ?_)|(clear hK;clear hK;clear hK;refine hK _ _ ?_));clear hK;try simp only[pst0,simprocAttr])|(rw[if_pos];rotate_left 1;omega;simp(maxSteps:=2000000) only[Ty.w,simprocAttr,g1,g2,g89,g90,g91,w7,Bool.not_false])));exact hG2.put
          |true=>
           (repeat'(first|refine a_seq fun K hK=>?_|(refine a_block ?_)|((first|refine a_regionS ?_|refine a_region (fun K hK=>?_)|refine a_ret ?_);simp(maxSteps:=2000000) only[Ty.w,simprocAttr,g1,g2,g89,g90,g91,w7,Bool.not_true])|((first|refine a_skip ?_|refine a_exit ?_);try simp only[pst0,simprocAttr])|(refine a_cond _ (by(try simp(maxSteps:=2000000) only[Ty.w,simprocAttr,g1,g2,g89,g90,g91,w7,Bool.not_true]);rfl) (fun hb=>?_) (fun hb=>?_)<;>(try simp only[hb0,decide_eq_true_eq,decide_eq_false_iff_not,simprocAttr]at hb)<;>(try(exfalso;omega)))|(with_reducible refine ite_in (fun hb=>?_) (fun hb=>?_)<;>(try simp only[Decidable.not_not]at hb)<;>(try simp only[hb,if_true,if_false,not_false_eq_true,not_true_eq_false, ↓reduceIte])<;>(try simp only[hb0,decide_eq_true_eq,decide_eq_false_iff_not,simprocAttr]at hb)<;>(try(exfalso;omega)))|((first|refine hK _ _ ?_|(clear hK;refine hK _ _ ?_)|(clear hK;clear hK;refine hK _ _ ?_)|(clear hK;clear hK;clear hK;refine hK _ _ ?_));clear hK;try simp only[pst0,simprocAttr])|(rw[if_pos];rotate_left 1;omega;simp(maxSteps:=2000000) only[Ty.w,simprocAttr,g1,g2,g89,g90,g91,w7,Bool.not_true])));exact⟨kids.length-(k+1),by omega,k+1,n'',by simp,by omega,rfl,hle rfl,hG2.put,hinv⟩
         ·have hdk:decide ((k:Int)<(kids.length:Int))=false:=(by simp;omega);rw[List.drop_eq_nil_of_le (by omega)]at hinv;simp only[svalids]at hinv;subst hinv;(repeat'(first|refine a_seq fun K hK=>?_|(refine a_block ?_)|((first|refine a_regionS ?_|refine a_region (fun K hK=>?_)|refine a_ret ?_);simp(maxSteps:=2000000) only[Ty.w,simprocAttr,g1,g2,g89,g90,g91,hdk])|((first|refine a_skip ?_|refine a_exit ?_);try simp only[pst0,simprocAttr])|(refine a_cond _ (by(try simp(maxSteps:=2000000) only[Ty.w,simprocAttr,g1,g2,g89,g90,g91,hdk]);rfl) (fun hb=>?_) (fun hb=>?_)<;>(try simp only[hb0,decide_eq_true_eq,decide_eq_false_iff_not,simprocAttr]at hb)<;>(try(exfalso;omega)))|(with_reducible refine ite_in (fun hb=>?_) (fun hb=>?_)<;>(try simp only[Decidable.not_not]at hb)<;>(try simp only[hb,if_true,if_false,not_false_eq_true,not_true_eq_false, ↓reduceIte])<;>(try simp only[hb0,decide_eq_true_eq,decide_eq_false_iff_not,simprocAttr]at hb)<;>(try(exfalso;omega)))|((first|refine hK _ _ ?_|(clear hK;refine hK _ _ ?_)|(clear hK;clear hK;refine hK _ _ ?_)|(clear hK;clear hK;clear hK;refine hK _ _ ?_));clear hK;try simp only[pst0,simprocAttr])|(rw[if_pos];rotate_left 1;omega;simp(maxSteps:=2000000) only[Ty.w,simprocAttr,g1,g2,g89,g90,g91,hdk])));(try rw[hV]);first|exact⟨rfl,hG⟩|exact hG
theorem svalid_c{x:Sx}(hx:x.ok)(h:Heap):PCall Tryz.prog 68 [.agg x.cells] h fun r h'=>r= .sc (.bool (svalid x 0 0).1)∧h'=h:=by
 have hc:=valid_c x hx 0 0 (by omega) (by omega) h.next ((h.new (.arr 1 [[.sc (.int .i64 0)]])).set h.next (.arr 1 [[.sc (.int .i64 0)]])) (by simp[Heap.set,cntO])
 refine PCall.quiet Ty.hb_68 ?_;generalize svalid x 0 0=W at hc;obtain⟨b,n⟩:=W;obtain⟨ki,va,li,co,te,ks⟩:=x;simp only[Sx.cells,Int.natCast_zero]at hc⊢;refine pcall_body (ow:=fun _=>false) (wf:=fun _=>false) Ty.mixed Tryz.func68 rfl Ty.hb_68 (by rw[Tryz.ntmps68];simp) ?_;rw[Tryz.ntmps68,Tryz.results68];repeat'(first|refine a_seq fun K hK=>?_|(refine a_block ?_)|((first|refine a_regionS ?_|refine a_region (fun K hK=>?_)|refine a_ret ?_);simp(maxSteps:=2000000) only[Ty.w,simprocAttr])|((first|refine a_skip ?_|refine a_exit ?_);try simp only[pst0,simprocAttr])|(refine a_cond _ (by(try simp(maxSteps:=2000000) only[Ty.w,simprocAttr]);rfl) (fun hb=>?_) (fun hb=>?_)<;>(try simp only[hb0,decide_eq_true_eq,decide_eq_false_iff_not,simprocAttr]at hb)<;>(try(exfalso;omega)))|(with_reducible refine ite_in (fun hb=>?_) (fun hb=>?_)<;>(try simp only[Decidable.not_not]at hb)<;>(try simp only[hb,if_true,if_false,not_false_eq_true,not_true_eq_false, ↓reduceIte])<;>(try simp only[hb0,decide_eq_true_eq,decide_eq_false_iff_not,simprocAttr]at hb)<;>(try(exfalso;omega)))|((first|refine hK _ _ ?_|(clear hK;refine hK _ _ ?_)|(clear hK;clear hK;refine hK _ _ ?_)|(clear hK;clear hK;clear hK;refine hK _ _ ?_));clear hK;try simp only[pst0,simprocAttr])|(rw[if_pos];rotate_left 1;omega;simp(maxSteps:=2000000) only[Ty.w,simprocAttr]))
 refine owp_useH (hc) (by(try simp only[Ty.w,simprocAttr,]);try rfl) ?_;simp(maxSteps:=2000000) only[Ty.w,simprocAttr,];repeat'(first|refine a_seq fun K hK=>?_|(refine a_block ?_)|((first|refine a_regionS ?_|refine a_region (fun K hK=>?_)|refine a_ret ?_);simp(maxSteps:=2000000) only[Ty.w,simprocAttr])|((first|refine a_skip ?_|refine a_exit ?_);try simp only[pst0,simprocAttr])|(refine a_cond _ (by(try simp(maxSteps:=2000000) only[Ty.w,simprocAttr]);rfl) (fun hb=>?_) (fun hb=>?_)<;>(try simp only[hb0,decide_eq_true_eq,decide_eq_false_iff_not,simprocAttr]at hb)<;>(try(exfalso;omega)))|(with_reducible refine ite_in (fun hb=>?_) (fun hb=>?_)<;>(try simp only[Decidable.not_not]at hb)<;>(try simp only[hb,if_true,if_false,not_false_eq_true,not_true_eq_false, ↓reduceIte])<;>(try simp only[hb0,decide_eq_true_eq,decide_eq_false_iff_not,simprocAttr]at hb)<;>(try(exfalso;omega)))|((first|refine hK _ _ ?_|(clear hK;refine hK _ _ ?_)|(clear hK;clear hK;refine hK _ _ ?_)|(clear hK;clear hK;clear hK;refine hK _ _ ?_));clear hK;try simp only[pst0,simprocAttr])|(rw[if_pos];rotate_left 1;omega;simp(maxSteps:=2000000) only[Ty.w,simprocAttr]))
 exact(((Grow.refl h).new _).set (Nat.le_refl _) _).set (Nat.le_refl _) _
end Go.Proofs.YtnldekadkjdbcaaGreat
namespace Go.Proofs.YtnldekadkjdbcaaGreat
open Go.AM
set_option maxHeartbeats 2000000
set_option maxRecDepth 20000
mutual
def decR(h:Heap):Nat→List PV→Option Sx
 |0,_=>none
 |k+1,[.sc (.int .i64 a),.sc (.int .i64 b),.sc (.int .i64 c),.sc (.int .i64 d),.sc (.string t),ks]=>match ks with
  | .imm z rows=>if z=6∧ -9223372036854775808≤a∧a≤9223372036854775807∧ -9223372036854775808≤b∧b≤9223372036854775807∧t.size≤bigN∧rows.length≤bigN then(decRs h k rows).map fun l=> .mk a b c d t l else none
  | .own id off len=>match h.obj id with
   |some (.arr z rows)=>if z=6∧off+len≤rows.length∧ -9223372036854775808≤a∧a≤9223372036854775807∧ -9223372036854775808≤b∧b≤9223372036854775807∧t.size≤bigN∧len≤bigN then(decRs h k ((rows.drop off).take len)).map fun l=> .mk a b c d t l else none
   |_=>none
  | .emp=>if-9223372036854775808≤a∧a≤9223372036854775807∧ -9223372036854775808≤b∧b≤9223372036854775807∧t.size≤bigN then some (.mk a b c d t [])else none
  | .sc (.slice none 0 0)=>if-9223372036854775808≤a∧a≤9223372036854775807∧ -9223372036854775808≤b∧b≤9223372036854775807∧t.size≤bigN then some (.mk a b c d t [])else none
  |_=>none
 |_,_=>none
def decRs(h:Heap):Nat→List (List PV)→Option (List Sx)
 |0,_=>none
 |_+1,[]=>some []
 |k+1,r::rs=>match decR h k r with
  |some x=>(decRs h k rs).map (x::·)
  |none=>none
end
def decOk(β:Env)(h:Heap)(w:World)(k:Nat):Prop:= ∀ (r:List PV)(x:Sx),decR h k r=some x→x.ok∧r.length=6∧(∀ b o,RepS β h.next (Fz β (arrless h) w) w r b o→RepS β h.next (Fz β (arrless h) w) w x.cells b o)∧ ∀ vs,RepL β h.next (Fz β (arrless h) w) w r vs→RepL β h.next (Fz β (arrless h) w) w x.cells vs
def decsOk(β:Env)(h:Heap)(w:World)(k:Nat):Prop:= ∀ (rs:List (List PV))(l:List Sx),decRs h k rs=some l→Sx.oks l∧l.length=rs.length∧ ∀ b o,RepR β h.next (Fz β (arrless h) w) w 6 rs b o→RepR β h.next (Fz β (arrless h) w) w 6 (Sx.rows l) b o
theorem decs_of{β:Env}{hp:Heap}{w:World}(k:Nat)(h1:decOk β hp w k)(h2:decsOk β hp w k):decsOk β hp w (k+1):=by
 intro rs l h;cases rs with
 |nil=>
  simp only[decRs,Option.some.injEq]at h;subst h;exact⟨by simp only[Sx.oks],rfl,fun b o hr=>by simpa only[Sx.rows]using hr⟩
 |cons r rs=>
  simp only[decRs]at h;split at h
  ·rename_i x hx;simp only[Option.map_eq_some_iff]at h;obtain⟨l',hl,rfl⟩:=h;obtain⟨a1,a2,a3,_⟩:=h1 r x hx;obtain⟨b1,b2,b3⟩:=h2 rs l' hl;refine⟨by simp only[Sx.oks];exact⟨a1,b1⟩,by simp[b2],fun b o hr=>?_⟩;simp only[Sx.rows,RepR]at hr⊢;exact⟨⟨Sx.cells_len x,a3 b o hr.1.2⟩,b3 b _ hr.2⟩
  ·simp at h
theorem dec_of{β:Env}{hp:Heap}{w:World}(sm:Sim β hp w)(k:Nat)(h2:decsOk β hp w k):decOk β hp w (k+1):=by
 intro r x h;unfold decR at h;split at h
 case h_1=>simp at h
 case h_3=>simp at h
 rename_i kk a b c d t ks hkk;have:kk=k:=by omega
 subst this;have key: ∀ (l:List Sx),(∀ v,Rep β hp.next (Fz β (arrless hp) w) w ks v→Rep β hp.next (Fz β (arrless hp) w) w (.imm 6 (Sx.rows l)) v)→(∀ bb o,RepS β hp.next (Fz β (arrless hp) w) w [.sc (.int .i64 a),.sc (.int .i64 b),.sc (.int .i64 c),.sc (.int .i64 d),.sc (.string t),ks] bb o→RepS β hp.next (Fz β (arrless hp) w) w (Sx.mk a b c d t l).cells bb o)∧ ∀ vs,RepL β hp.next (Fz β (arrless hp) w) w [.sc (.int .i64 a),.sc (.int .i64 b),.sc (.int .i64 c),.sc (.int .i64 d),.sc (.string t),ks] vs→RepL β hp.next (Fz β (arrless hp) w) w (Sx.mk a b c d t l).cells vs:=by
  intro l hk;constructor
  ·intro bb o hr;simp only[Sx.cells,RepS,sPV]at hr⊢;obtain⟨r1,r2,r3,r4,r5,⟨v,g1,g2,g3⟩,r7⟩:=hr;exact⟨r1,r2,r3,r4,r5,⟨v,g1,g2,hk v g3⟩,r7⟩
  ·intro vs hr
   match vs,hr.len,hr with
   |[v1,v2,v3,v4,v5,v6],_,hr=>
    simp only[Sx.cells,RepL,sPV]at hr⊢;obtain⟨r1,r2,r3,r4,r5,r6,r7⟩:=hr;exact⟨r1,r2,r3,r4,r5,hk v6 r6,r7⟩
 split at h
 ·rename_i z rows;split at h
  ·rename_i hc;obtain⟨rfl,c1,c2,c3,c4,c5,c6⟩:=hc;simp only[Option.map_eq_some_iff]at h;obtain⟨l,hl,rfl⟩:=h;obtain⟨b1,b2,b3⟩:=h2 rows l hl;obtain⟨k1,k2⟩:=key l (fun v hv=>by
    simp only[Rep]at hv⊢;obtain⟨aa,cap,e1,e2,e3,e4⟩:=hv;refine⟨aa,cap,by rw[Sx.rows_len,b2];exact e1,by rw[Sx.rows_len,b2];exact e2,e3,?_⟩;rcases e4 with e4|⟨bb,o,f1,f2,f3⟩
    ·left;have hz:l.length=0:=(by rw[b2,e4];try rfl);have:l=[]:=List.length_eq_zero_iff.1 hz;rw[this];simp only[Sx.rows]
    ·exact .inr ⟨bb,o,f1,f2,b3 bb o f3⟩)
   exact⟨by simp only[Sx.ok];exact⟨⟨c1,c2⟩,⟨c3,c4⟩,c5,by rw[b2];exact c6,b1⟩,rfl,k1,k2⟩
  ·simp at h
 ·rename_i id off len;split at h
  case h_2=>simp at h
  rename_i z rows hob;split at h
  ·rename_i hc;obtain⟨rfl,c0,c1,c2,c3,c4,c5,c6⟩:=hc;simp only[Option.map_eq_some_iff]at h;obtain⟨l,hl,rfl⟩:=h;obtain⟨b1,b2,b3⟩:=h2 _ l hl;have hlen:((rows.drop off).take len).length=len:=(by simp;omega);rw[hlen]at b2;have mvS:Mv β hp.next (Fz β hp w) w β hp.next (Fz β (arrless hp) w) w:=⟨Nat.le_refl _,fun _ _ _=>rfl,fun b hb=>⟨⟨hb.1,fun id hs=>hb.2.1 id (by
    obtain⟨o,ho⟩:=Option.isSome_iff_exists.1 hs;rw[arrless_some ho];try rfl),hb.2.2⟩,rfl⟩⟩
   have hk0:=sm.ok id _ hob;have hk:=ObjOk.mv mvS (fun _ _=>rfl) hk0;obtain⟨k1,k2⟩:=key l (fun v hv=>by
    simp only[Rep]at hv⊢;obtain⟨hid,aa,cap,e1,e2,e3,e4⟩:=hv;refine⟨aa,cap,by rw[Sx.rows_len,b2];exact e1,by rw[Sx.rows_len,b2];exact e2,e3,?_⟩;rcases e4 with e4|⟨bb,f1,f2,f3⟩
    ·left;have hz:l.length=0:=(by omega);have:l=[]:=List.length_eq_zero_iff.1 hz;rw[this];simp only[Sx.rows]
    ·simp only[ObjOk]at hk;obtain⟨hz,hk⟩:=hk;rcases hk with⟨hk,_⟩|⟨b',c',e',fr,g1,g2,g3,g4,g5,g6⟩
     ·rw [hk]at f1;simp at f1
     ·rw [f1]at g1;simp at g1;subst g1;rw[hz]at f2;refine .inr ⟨bb,_,?_,f2,b3 bb _ ((g6.drop off).take len)⟩;refine⟨hk0.blk_lt f1,fun j hj hbb=>?_,sm.nx id (by rw[hob];try rfl) bb f1⟩;have hjl:(hp.obj j).isSome=true:=by
       obtain⟨o,ho⟩:=Option.isSome_iff_exists.1 hj;rw[arrless_some ho];try rfl
      have:=sm.inj id j (by rw[hob];try rfl) hjl bb f1 hbb;subst this;rw[arrless_blk hob hk0 f1]at hj;simp at hj)
   exact⟨by simp only[Sx.ok];exact⟨⟨c1,c2⟩,⟨c3,c4⟩,c5,by rw[b2];exact c6,b1⟩,rfl,k1,k2⟩
  ·simp at h
 ·split at h
  ·rename_i hc;obtain⟨c1,c2,c3,c4,c5⟩:=hc;simp only[Option.some.injEq]at h;subst h;obtain⟨k1,k2⟩:=key [] (fun v hv=>by
    simp only[Rep,Sx.rows]at hv⊢;obtain⟨aa,rfl⟩:=hv;exact⟨aa,0,rfl,by simp,by simp[maxLen],.inl trivial⟩)
   exact⟨by simp only[Sx.ok,Sx.oks,and_true];exact⟨⟨c1,c2⟩,⟨c3,c4⟩,c5,by simp⟩,rfl,k1,k2⟩
  ·simp at h
 ·split at h
  ·rename_i hc;obtain⟨c1,c2,c3,c4,c5⟩:=hc;simp only[Option.some.injEq]at h;subst h;obtain⟨k1,k2⟩:=key [] (fun v hv=>by
    simp only[Rep,Sx.rows]at hv⊢;subst hv;exact⟨none,0,rfl,by simp,by simp[maxLen],.inl trivial⟩)
   exact⟨by simp only[Sx.ok,Sx.oks,and_true];exact⟨⟨c1,c2⟩,⟨c3,c4⟩,c5,by simp⟩,rfl,k1,k2⟩
  ·simp at h
 ·simp at h
theorem dec_ok{β:Env}{hp:Heap}{w:World}(sm:Sim β hp w): ∀ k,decOk β hp w k∧decsOk β hp w k
 |0=>⟨fun r x h=>by simp[decR]at h,fun rs l h=>by simp[decRs]at h⟩
 |k+1=>⟨dec_of sm k (dec_ok sm k).2,decs_of k (dec_ok sm k).1 (dec_ok sm k).2⟩
theorem valid_of{cs:List PV}{x:Sx}{k:Nat}{h:Heap}(hd:decR h k cs=some x)(hok:x.ok):PCall Tryz.prog 68 [.agg cs] h fun r h'=>r= .sc (.bool (svalid x 0 0).1)∧h'=h:=by
 refine PCall.lend (svalid_c hok (arrless h)) fun β w vals sm hr=>?_;obtain⟨_,_,_,g⟩:=(dec_ok sm k).1 cs x hd;have mvS:Mv β h.next (Fz β h w) w β h.next (Fz β (arrless h) w) w:=⟨Nat.le_refl _,fun _ _ _=>rfl,fun b hb=>⟨⟨hb.1,fun id hs=>hb.2.1 id (by
  obtain⟨o,ho⟩:=Option.isSome_iff_exists.1 hs;rw[arrless_some ho];try rfl),hb.2.2⟩,rfl⟩⟩
 have hr:=RepL.mv mvS _ _ hr
 match vals,hr.len,hr with
 |[v],_,hr=>
  simp only[RepL,Rep,and_true]at hr⊢;obtain⟨xs,e1,e2,e3⟩:=hr;exact⟨xs,e1,e2,g xs e3⟩
theorem PCall.ofSim{P:Program}{f:FuncId}{args:List PV}{h:Heap}{K:PV→Heap→Prop}(hc:(∃ β w,Sim β h w)→PCall P f args h K):PCall P f args h K:=fun β w vals sm hr=>hc ⟨β,w,sm⟩ β w vals sm hr
theorem pcall_indexString{P:Program}{f:FuncId}{fn:Func}(hf:P.funcs[f]? =some fn)(hname:(fn.name== "runtime.NumGoroutine")=false)(hb:fn.body.isNone=true)(hn:Extern.findNext fn=none)(he:Extern.find fn=some Extern.BytealgIndex.index){g id:Nat}{lo hi:Int}(hg:P.globals.findIdx? (·.name== "internal/bytealg.MaxLen")=some g)(s t:ByteArray)(h:Heap)(hob:h.obj id=some (.glb g lo hi))(h2:2≤t.size)(hlo:(t.size:Int)≤lo)(hs:s.size<4294967281):
  PCall P f [.sc (.string s),.sc (.string t)] h (fun r h'=>r= .sc (.int .i64 (Go.Lib.index s.data.toList t.data.toList))∧h'=h):=by
 intro β w vals sm hr;have hk:=sm.ok id _ hob;simp only[ObjOk]at hk;obtain⟨_,_,m,hm1,_,hm⟩:=hk
 match vals,hr.len,hr with
 |[x,y],_,hr=>
  simp only[RepL,Rep]at hr;obtain⟨rfl,rfl,_⟩:=hr;refine .inr ⟨.int .i64 (Go.Lib.index s.data.toList t.data.toList),w,?_,_,h,β,_,rfl,⟨rfl,rfl⟩,sm,by simp only[RepH,Rep],Ext.refl⟩;rw[run_callFunc_extern hf hname hb hn he,Go.Lib.run_indexString s t w g m hg hm h2 (by omega) hs];try rfl
theorem ixs_ok:(Tryz.f163.name== "runtime.NumGoroutine")=false∧Tryz.f163.body.isNone=true∧Extern.findNext Tryz.f163=none∧Extern.find Tryz.f163=some Extern.BytealgIndex.index:=
 ⟨by kernel_rfl,by kernel_rfl,by kernel_rfl,by kernel_rfl⟩
theorem ixs_g:Tryz.prog.globals.findIdx? (·.name== "internal/bytealg.MaxLen")=some 0:=by kernel_rfl
def ckExt(f:FuncId)(args:List PV)(h:Heap):Option PV:=
 if f=105 then(match args with|[.sc (.string s)]=>if s.size≤9223372036854775807 then some (.sc (.bool (nameB s)))else none|_=>none)
 else if f=106 then(match args with|[.sc (.string s)]=>if s.size≤9223372036854775807 then some (.sc (.bool (varB s)))else none|_=>none)
 else if f=68 then(match args with|[.agg cs]=>(decR h 5000 cs).map fun x=> .sc (.bool (svalid x 0 0).1)|_=>none)
 else if f=184 then(match args with|[.sc (.string s),.sc (.int .u8 c)]=>some (.sc (.int .i64 (firstIdx s c.toNat.toUInt8)))|_=>none)
 else if f=163 then(match args with
  |[.sc (.string s),.sc (.string t)]=>(match h.obj 0 with
   |some (.glb 0 lo _)=>if 2≤t.size∧(t.size:Int)≤lo∧s.size<4294967281 then some (.sc (.int .i64 (Go.Lib.index s.data.toList t.data.toList)))else none
   |_=>none)
  |_=>none)
 else none
theorem ckExt_ok:ExtOk2 Tryz.prog ckExt:=by
 intro f args r h hx;unfold ckExt at hx;split at hx
 ·rename_i hf;split at hx
  ·split at hx
   ·rename_i hs;simp only[Option.some.injEq]at hx;subst hx;subst hf;exact fname_c hs
   ·simp at hx
  ·simp at hx
 split at hx
 ·rename_i hf;split at hx
  ·split at hx
   ·rename_i hs;simp only[Option.some.injEq]at hx;subst hx;subst hf;exact fvariable_c hs
   ·simp at hx
  ·simp at hx
 split at hx
 ·rename_i hf;split at hx
  ·simp only[Option.map_eq_some_iff]at hx;obtain⟨x,hd,rfl⟩:=hx;subst hf;exact PCall.ofSim fun⟨β,w,sm⟩=>valid_of hd ((dec_ok sm 5000).1 _ x hd).1
  ·simp at hx
 split at hx
 ·rename_i hf;split at hx
  ·simp only[Option.some.injEq]at hx;subst hx;subst hf;exact pcall_indexByte Tryz.func184 ixb_ok.1 ixb_ok.2.1 ixb_ok.2.2.1 ixb_ok.2.2.2 _ _ _
  ·simp at hx
 split at hx
 ·rename_i hf;split at hx
  ·split at hx
   ·rename_i hob;split at hx
    ·rename_i hc;simp only[Option.some.injEq]at hx;subst hx;subst hf;exact pcall_indexString Tryz.func163 ixs_ok.1 ixs_ok.2.1 ixs_ok.2.2.1 ixs_ok.2.2.2 ixs_g _ _ _ hob hc.1 hc.2.1 hc.2.2
    ·simp at hx
   ·simp at hx
  ·simp at hx
 ·simp at hx
end Go.Proofs.YtnldekadkjdbcaaGreat
namespace Go.Proofs.YtnldekadkjdbcaaGreat
open Go.AM
set_option maxHeartbeats 2000000
set_option maxRecDepth 20000
abbrev minI:Int:= -9223372036854775808
abbrev maxI:Int:=9223372036854775807
def taOwn(f t:Nat):Bool:=([(42,18),(42,27),(42,51),(42,72),(43,40),(43,49),(43,67),(74,9),(63,15),(66,11),(67,11),(111,13),(166,13),(146,10),(161,5),(75,5),(113,5),(187,5),(32,39),(8,47),(44,7),(28,7)]:List (Nat × Nat)).contains (f,t)
def taWf(f:Nat):Bool:=([62,64,66,67,63,142,111,166,110,107,75]:List Nat).contains f
def taKeep(f:Nat):Bool:=f==75
def xquiet(r:Option (PV × Option Nat × Heap))(v:PV):Bool:=match r with
 |some (u,q,_)=>q.isNone&&pvEq u v
 |none=>false
theorem taRun{ext:FuncId→List PV→Heap→Option PV}(hext:ExtOk2 Tryz.prog ext){own:Nat→Nat→Bool}{keep:Nat→Bool}{m k:Nat}{f:FuncId}{args:List PV}{h:Heap}{v:PV}(hx:xquiet (xf2 Tryz.prog taWf own ext keep m k f args h) v=true):PCall Tryz.prog f args h fun r h'=>r=v∧h'=h:=by
 unfold xquiet at hx;split at hx
 ·rename_i u q h' hr;simp only[Bool.and_eq_true,Option.isNone_iff_eq_none]at hx;obtain⟨rfl,hx⟩:=hx;obtain⟨h1,h2⟩:=xf_ok2 Ty.mixed hext k _ _ _ _ _ _ hr;simp only[Tch]at h2;refine h1.mono (fun r h'' hr=>?_);exact⟨by rw[hr.1,pvEq_eq _ _ hx],by rw[hr.2,h2]⟩
 ·simp at hx
theorem taPart{f:FuncId}{args:List PV}{h:Heap}{u:PV}{lo hi:Int}(hob:h.obj 0=some (.glb 0 lo hi))(hn:inNL 1 args)(hc:PCall Tryz.prog f args (heapG 0 lo hi) fun r h'=>r=u∧h'=heapG 0 lo hi):PCall Tryz.prog f args h fun r h'=>r=u∧h'=h:=by
 refine PCall.ofSim fun⟨β,w,sm⟩=>?_;refine PCall.part hc (sm.lt 0 (by rw[hob];try rfl)) (fun id o ho=>?_) hn;simp only[heapG]at ho;split at ho
 ·rename_i he;subst he;simp at ho;subst ho;exact⟨hob,by simp[heapG],by simp only[inNO]⟩
 ·simp at ho
abbrev hG:Heap:=heapG 0 minI maxI
def taExt(f:FuncId)(args:List PV)(h:Heap):Option PV:=match ckExt f args h with
 |some r=>some r
 |none=>if f=21 then(match args with
  |[.sc (.string s)]=>(match h.obj 0 with
   |some (.glb 0 _ _)=>if s.size≤9223372036854775807 then some (.sc (.bool (nameB s)))else none
   |_=>none)
  |_=>none)else none
theorem taExt_ok:ExtOk2 Tryz.prog taExt:=by
 intro f args r h hx;unfold taExt at hx;split at hx
 ·rename_i r' hr;simp only[Option.some.injEq]at hx;subst hx;exact ckExt_ok _ _ _ _ hr
 split at hx
 ·rename_i hf;split at hx
  ·split at hx
   ·rename_i hob;split at hx
    ·rename_i hs;simp only[Option.some.injEq]at hx;subst hx;subst hf;exact tname_c hob hs
    ·simp at hx
   ·simp at hx
  ·simp at hx
 ·simp at hx
def outV(r:Option (PV × Option Nat × Heap))(i:Nat):PV:=match r with
 |some (.tup vs,_,_)=>vs.getD i .emp
 |_=> .emp
noncomputable def smp (i:Nat):PV:=outV (xf2 Tryz.prog taWf taOwn taExt taKeep 2000 40 13 [] hG) i
noncomputable def tmd (i:Nat):PV:=outV (xf2 Tryz.prog taWf taOwn taExt taKeep 2000 40 14 [] hG) i
end Go.Proofs.YtnldekadkjdbcaaGreat
namespace Go.Proofs.YtnldekadkjdbcaaGreat
open Go.AM
set_option maxHeartbeats 2000000
set_option maxRecDepth 20000
theorem tright1_c:PCall Tryz.prog 16 [smp 0,smp 1] hG fun r h'=>r= .sc (.bool true)∧h'=hG:=
 taRun taExt_ok (own:=taOwn) (keep:=taKeep) (m:=2000) (k:=50) (by kernel_rfl)
theorem tright2_c:PCall Tryz.prog 16 [tmd 0,tmd 1] hG fun r h'=>r= .sc (.bool true)∧h'=hG:=
 taRun taExt_ok (own:=taOwn) (keep:=taKeep) (m:=2000) (k:=50) (by kernel_rfl)
noncomputable def tbExt (f:FuncId)(args:List PV)(h:Heap):Option PV:=match taExt f args h with
 |some r=>some r
 |none=>if f=16 then(match h.obj 0 with
   |some (.glb 0 lo hi)=>if lo=minI∧hi=maxI∧(inNLb 1 args&&(pvEq (.tup args) (.tup [smp 0,smp 1])||pvEq (.tup args) (.tup [tmd 0,tmd 1])))=true then some (.sc (.bool true))else none
   |_=>none)else none
theorem tbExt_ok:ExtOk2 Tryz.prog tbExt:=by
 intro f args r h hx;unfold tbExt at hx;split at hx
 ·rename_i r' hr;simp only[Option.some.injEq]at hx;subst hx;exact taExt_ok _ _ _ _ hr
 split at hx
 ·rename_i hf;split at hx
  ·rename_i hob;split at hx
   ·rename_i hc;simp only[Option.some.injEq]at hx;obtain⟨rfl,rfl,hs⟩:=hc;subst hx;subst hf;simp only[Bool.and_eq_true,Bool.or_eq_true]at hs;obtain⟨hn,hs⟩:=hs;have hn:=inNLb_ok _ hn;rcases hs with hs|hs
    ·have:=pvEq_eq _ _ hs;simp only[PV.tup.injEq]at this;subst this;exact taPart hob hn tright1_c
    ·have:=pvEq_eq _ _ hs;simp only[PV.tup.injEq]at this;subst this;exact taPart hob hn tright2_c
   ·simp at hx
  ·simp at hx
 ·simp at hx
theorem tawake_hG:PCall Tryz.prog 4 [] hG fun r h'=>r= .sc (.bool true)∧h'=hG:=
 taRun tbExt_ok (own:=taOwn) (keep:=taKeep) (m:=2000) (k:=50) (by kernel_rfl)
theorem tawake_c{h:Heap}(hob:h.obj 0=some (.glb 0 minI maxI)):PCall Tryz.prog 4 [] h fun r h'=>r= .sc (.bool true)∧h'=h:=
 taPart hob (by simp only[inNL]) tawake_hG
end Go.Proofs.YtnldekadkjdbcaaGreat
namespace Go.AM
open Go.ChangeShapes Go.WideShapes
def partsT(P:Program)(t:TypeId):List (Nat × TypeId):=match P.underlying t with
 |some (.struct fs)=>fs.toList.map fun f=>(f.offset,f.type)
 |some (.array n e)=>(List.range n).map fun i=>(i*P.cellsOf e,e)
 |_=>[]
def inRow(P:Program)(e:Nat):Nat→List (Nat × TypeId)→Bool
 |o,[]=>o==e
 |o,p::l=>p.1==o&&inRow P e (o+P.cellsOf p.2) l
def covB(P:Program):Nat→TypeId→Bool
 |0,_=>false
 |f+1,t=>match P.underlying t with
  |some .bool=>true
  |some (.int _)=>true
  |some .string=>true
  |some (.slice e)=>decide (0<P.cellsOf e)&&covB P f e
  |some (.struct _)=>inRow P (P.cellsOf t) 0 (partsT P t)&&(partsT P t).all fun p=>covB P f p.2
  |some (.array _ _)=>inRow P (P.cellsOf t) 0 (partsT P t)&&(partsT P t).all fun p=>covB P f p.2
  |_=>false
def Arg(P:Program):Nat→TypeId→List PV→Prop
 |0,_,_=>False
 |f+1,t,ps=>match P.underlying t with
  |some .bool=> ∃ b,ps=[.sc (.bool b)]
  |some (.int k)=> ∃ n,(Lit.int k n).wf=true∧ps=[.sc (.int k n)]
  |some .string=> ∃ s:ByteArray,s.size≤reachBytes∧ps=[.sc (.string s)]
  |some (.slice e)=> ∃ rows,ps=[.imm (P.cellsOf e) rows]∧rows.length*P.bytesOf e≤reachBytes∧rows.length≤maxLen∧ ∀ r∈rows,r.length=P.cellsOf e∧Arg P f e r
  |some (.struct _)=>ps.length=P.cellsOf t∧ ∀ p∈partsT P t,Arg P f p.2 ((ps.drop p.1).take (P.cellsOf p.2))
  |some (.array _ _)=>ps.length=P.cellsOf t∧ ∀ p∈partsT P t,Arg P f p.2 ((ps.drop p.1).take (P.cellsOf p.2))
  |_=>False
section
variable {H:Type}{enc:TypeId × Value→H}{P:Program}{w:World}{sp:Nat→Bool}{held:Bool}
def RA(w:World)(ps:List PV)(cs:List Value):Prop:=(∀ v∈cs,v.oneCell'=true)∧ ∀ β n,RepL β n (fun b=>b<w.heap.size) w ps cs
theorem RA.len{ps:List PV}{cs:List Value}(h:RA w ps cs):ps.length=cs.length:=(h.2 ⟨fun _=>⟨none,0,0,0⟩,fun _=>False⟩ 0).len
theorem RA.append{ps ps':List PV}{cs cs':List Value}(h:RA w ps cs)(k:RA w ps' cs'):RA w (ps++ps') (cs++cs'):=
 ⟨fun v hv=>by exact(List.mem_append.1 hv).elim (h.1 v) (k.1 v),fun β n=>(h.2 β n).append (k.2 β n)⟩
theorem inRow_le{e:Nat}:(l:List (Nat × TypeId))→(o:Nat)→inRow P e o l=true→o≤e∧ ∀ p∈l,o≤p.1∧p.1+P.cellsOf p.2≤e
 |[],o,h=>by simp[inRow]at h;simp[h]
 |p::l,o,h=>by
  simp only[inRow,Bool.and_eq_true,beq_iff_eq]at h;obtain⟨h1,h2⟩:=inRow_le l _ h.2;refine⟨by omega,fun q hq=>?_⟩;rcases List.mem_cons.1 hq with rfl|hq
  ·omega
  ·have:=h2 q hq;omega
theorem parts_rep{c:Nat}{cs:List Value}:(l:List (Nat × TypeId))→(o:Nat)→inRow P cs.length o l=true→
  (∀ p∈l, ∃ ps,Arg P c p.2 ps∧RA w ps ((cs.drop p.1).take (P.cellsOf p.2)))→
  ∃ ps,RA w ps (cs.drop o)∧ ∀ p∈l,Arg P c p.2 ((ps.drop (p.1-o)).take (P.cellsOf p.2))
 |[],o,h,_=>by
  simp[inRow]at h;refine⟨[],⟨?_,fun β n=>?_⟩,by simp⟩
  ·rw [List.drop_of_length_le (by omega)];simp
  ·rw [List.drop_of_length_le (by omega)];simp[RepL]
 |p::l,o,h,hp=>by
  have hle:=(inRow_le (p::l) o h).2 p (by simp);simp only[inRow,Bool.and_eq_true,beq_iff_eq]at h;obtain⟨ps,h1,h2⟩:=parts_rep l _ h.2 (fun q hq=>hp q (by simp[hq]));obtain⟨ps0,h3,h4⟩:=hp p (by simp);have hl2:=(inRow_le l _ h.2).2;have e0:p.1=o:=h.1;have l0:ps0.length=P.cellsOf p.2:=by rw[h4.len,List.length_take,List.length_drop];omega
  refine⟨ps0++ps,?_,fun q hq=>?_⟩
  ·have:cs.drop o=(cs.drop p.1).take (P.cellsOf p.2)++cs.drop (o+P.cellsOf p.2):=by
    rw[e0, ← List.drop_drop,List.take_append_drop]
   rw[this];exact h4.append h1
  ·rcases List.mem_cons.1 hq with rfl|hq
   ·rw [e0,Nat.sub_self,List.drop_zero,List.take_append_of_le_length (by omega),List.take_of_length_le (by omega)];exact h3
   ·have h5:=hl2 q hq;have:q.1-o=ps0.length+(q.1-(o+P.cellsOf p.2)):=(by omega);rw[this, ← List.drop_drop,List.drop_left];exact h2 q hq
theorem exists_list{α:Type}{R:Nat→α→Prop}:(n:Nat)→(∀ i,i<n→ ∃ x,R i x)→ ∃ l:List α,l.length=n∧ ∀ i x,l[i]? =some x→R i x
 |0,_=>⟨[],rfl,by simp⟩
 |n+1,h=>by
  obtain⟨l,h1,h2⟩:=exists_list n (fun i hi=>h i (by omega));obtain⟨x,hx⟩:=h n (by omega);refine⟨l++[x],by simp[h1],fun i y hy=>?_⟩;rw[List.getElem?_append]at hy;split at hy
  ·exact h2 i y hy
  ·rename_i hi;have:i=n:=by
    have:=(List.getElem?_eq_some_iff.1 hy).1;simp at this;omega
   subst this;rw[h1]at hy;simp at hy;subst hy;exact hx
theorem weightsAll_mem{e:TypeId}{n:Nat}:{ds:List (DataW H)}→{i:Nat}→{d:DataW H}→ds[i]? =some d→n∈d.weights P e→n∈DataW.weightsAll P e ds
 |[],_,_,h,_=>by simp at h
 |d0::ds,0,d,h,hn=>by
  simp at h;subst h;simp only[DataW.weightsAll,List.mem_append];exact .inl hn
 |d0::ds,i+1,d,h,hn=>by
  simp at h;simp only[DataW.weightsAll,List.mem_append];exact .inr (weightsAll_mem h hn)
theorem sc_RA{v:Value}(h:v.oneCell'=true):RA w [.sc v] [v]:=
 ⟨fun u hu=>by simp at hu;subst hu;exact h,fun β n=>by simp only[RepL,Rep];exact⟨trivial,trivial⟩⟩
theorem arg_of: ∀ (c:Nat)(t:TypeId),covB P c t=true→ ∀ (fuel:Nat)(cs:List Value)(x:DataW H × List MemPlace),DataW.trod enc P w 0 sp held fuel t cs=some x→(∀ n∈x.1.weights P t,n≤reachBytes)→
  ∃ ps,Arg P c t ps∧RA w ps cs
 |0,_,h,_,_,_,_,_=>by simp[covB]at h
 |c+1,t,h,fuel,cs,x,hx,hw=>by
  unfold covB at h;split at h
  ·rename_i hu;obtain⟨b,rfl,rfl⟩:=DataW.trod_bool hu hx;refine⟨[.sc (.bool b)],?_,sc_RA rfl⟩;unfold Arg;rw[hu];exact⟨b,rfl⟩
  ·rename_i k hu;obtain⟨n,rfl,rfl,hwf⟩:=DataW.trod_int hu hx;refine⟨[.sc (.int k n)],?_,sc_RA rfl⟩;unfold Arg;rw[hu];exact⟨n,hwf,rfl⟩
  ·rename_i hu;obtain⟨s,rfl,rfl,hs⟩:=DataW.trod_string hu hx;refine⟨[.sc (.string s)],?_,sc_RA rfl⟩;unfold Arg;rw[hu];refine⟨s,?_,rfl⟩;have:=hw s.data.toList.length (by simp[DataW.weights]);simpa using this
  ·rename_i e hu;simp only[Bool.and_eq_true,decide_eq_true_eq]at h;obtain⟨hpos,hcov⟩:=h;rcases DataW.trod_slice hu hx with⟨rfl,rfl⟩|⟨a,len,cap,elems,rest,n,rfl,rfl,rfl,hb,hl,hm,hlen,hel,hsp,hns⟩
   ·refine ⟨[.imm (P.cellsOf e) []],?_,fun v hv=>?_,fun β n=>?_⟩
    ·unfold Arg;rw[hu];exact⟨[],rfl,by simp,by simp,by simp⟩
    ·simp at hv;subst hv;rfl
    ·simp only[RepL,Rep];exact⟨⟨none,0,rfl,Nat.le_refl _,Nat.zero_le _,.inl (by trivial)⟩,trivial⟩
   ·have each: ∀ i,i<len→ ∃ r:List PV,(r.length=P.cellsOf e∧Arg P c e r)∧ ∃ ci,RA w r ci∧ci.length=P.cellsOf e∧ ∀ j,j<P.cellsOf e→w.cell? ((a.add (i*P.cellsOf e)).add j)=ci[j]?:=by
     intro i hi;have h1:=hel i hi;have h2:elems[i]? =some (elems[i]'(by omega)):=List.getElem?_eq_getElem _;rw[h2,Option.bind_eq_some_iff]at h1;obtain⟨ci,h3,h4⟩:=h1;obtain⟨_,h5,h6⟩:=World.cells?_some h3;obtain⟨r,h7,h8⟩:=arg_of c e hcov n ci _ h4 (fun m hm=>hw m (by
      simp only[DataW.weights,hu,List.mem_cons,List.mem_append];exact .inr (.inl (weightsAll_mem (i:=i) (by rw[List.getElem?_map,h2];try rfl) hm))))
     exact⟨r,⟨by rw[h8.len,h5],h7⟩,ci,h8,h5,h6⟩
    obtain⟨rows,hrl,hrows⟩:=exists_list len each;refine⟨[.imm (P.cellsOf e) rows],?_,fun v hv=>?_,fun β m=>?_⟩
    ·unfold Arg;rw[hu];refine⟨rows,rfl,?_,by omega,fun r hr=>?_⟩
     ·have:=hw ((elems.map (·.1)).length*P.bytesOf e+(rest.map (·.1)).length*P.bytesOf e) (by
       simp only[DataW.weights,hu,List.mem_cons,Nat.add_mul,true_or])
      have h9:rows.length=(elems.map (·.1)).length:=(by simp[hrl,hlen]);rw[h9];exact Nat.le_trans (Nat.le_add_right _ _) this
     ·obtain ⟨i,hi⟩:=List.getElem?_of_mem hr;exact(hrows i r hi).1
    ·simp at hv;subst hv;rfl
    ·simp only[RepL,Rep];refine⟨⟨some a,cap,by rw[hrl],by omega,hm,?_⟩,trivial⟩;by_cases h0:len=0
     ·left;exact List.length_eq_zero_iff.1 (by omega)
     ·right;obtain⟨_,_,c0,_,hc0,hcell0⟩:=each 0 (by omega);have h10:=hcell0 0 hpos;rw[List.getElem?_eq_getElem (by omega)]at h10;simp only[Nat.zero_mul,Addr.add,if_true]at h10;have hs:a.spot=none:=by
       unfold World.cell? at h10;split at h10
       ·split at h10
        ·simp at h10
        ·rename_i hsp;simpa using hsp
       ·simp at h10
      have hblk:a.block<w.heap.size:=by
       unfold World.cell? at h10;split at h10
       ·rename_i hh;exact(Array.getElem?_eq_some_iff.1 hh).1
       ·simp at h10
      refine⟨a.block,a.off,hblk,by cases a;simp only at hs;subst hs;rfl,?_⟩;rw[RepR_iff];intro i r hr;obtain⟨⟨g1,_⟩,ci,g2,g3,g4⟩:=hrows i r hr;refine⟨g1,?_⟩;rw[RepS_iff];intro j p hp;obtain⟨v,hv,hrep⟩:=(g2.2 β m).get hp;have hj:j<P.cellsOf e:=(by rw[← g3];exact(List.getElem?_eq_some_iff.1 hv).1);refine⟨v,?_,g2.1 v (List.mem_of_getElem? hv),hrep⟩;rw[← hv, ← g4 j hj];congr 1;cases a;simp only at hs;subst hs;simp only[Addr.add];split<;>split<;>simp_all<;>omega
  ·rename_i fs hu;simp only[Bool.and_eq_true,List.all_eq_true]at h;obtain⟨xs,n,rfl,rfl,hcl,hxl,hp⟩:=DataW.trod_struct hu hx;have hpt:partsT P t=fs.toList.map fun f=>(f.offset,f.type):=(by unfold partsT;rw[hu]);obtain⟨ps,h1,h2⟩:=parts_rep (w:=w) (c:=c) (cs:=cs) (partsT P t) 0 (by rw[hcl];exact h.1) (fun p hpm=>by
    have hcv:=h.2 p hpm;rw[hpt]at hpm;obtain⟨i,hi⟩:=List.getElem?_of_mem hpm;rw[List.getElem?_map,Option.map_eq_some_iff]at hi;obtain⟨f,hf,rfl⟩:=hi;have hf':fs[i]? =some f:=(by simpa using hf);have hi':i<xs.length:=by
     rw[hxl];exact(Array.getElem?_eq_some_iff.1 hf').1
    have h3:=hp i f hf';rw[List.getElem?_eq_getElem hi']at h3;exact arg_of c f.type hcv n _ _ h3 (fun m hm=>hw m (by
     simp only[DataW.weights,hu];exact DataW.weights_mem_each (j:=i) (t:=f.type) (d:=xs[i].1) (by rw[List.getElem?_map,hf];try rfl) (by rw[List.getElem?_map,List.getElem?_eq_getElem hi'];try rfl) m hm)))
   refine⟨ps,?_,by simpa using h1⟩;unfold Arg;rw[hu];exact⟨by rw[h1.len,List.drop_zero,hcl],fun p hpm=>by simpa using h2 p hpm⟩
  ·rename_i k e hu;simp only[Bool.and_eq_true,List.all_eq_true]at h;obtain⟨xs,n,rfl,rfl,hcl,hxl,hp⟩:=DataW.trod_array hu hx;have hpt:partsT P t=(List.range k).map fun i=>(i*P.cellsOf e,e):=(by unfold partsT;rw[hu]);obtain⟨ps,h1,h2⟩:=parts_rep (w:=w) (c:=c) (cs:=cs) (partsT P t) 0 (by rw[hcl];exact h.1) (fun p hpm=>by
    have hcv:=h.2 p hpm;rw[hpt]at hpm;obtain⟨i,hi,rfl⟩:=List.mem_map.1 hpm;have hi':i<xs.length:=(by rw[hxl];simpa using hi);have h3:=hp i (by simpa using hi);rw[List.getElem?_eq_getElem hi']at h3;exact arg_of c e hcv n _ _ h3 (fun m hm=>hw m (by
     simp only[DataW.weights,hu];exact weightsAll_mem (i:=i) (d:=xs[i].1) (by rw[List.getElem?_map,List.getElem?_eq_getElem hi'];try rfl) hm)))
   refine⟨ps,?_,by simpa using h1⟩;unfold Arg;rw[hu];exact⟨by rw[h1.len,List.drop_zero,hcl],fun p hpm=>by simpa using h2 p hpm⟩
  ·simp at h
def ArgV(P:Program)(c:Nat)(t:TypeId)(p:PV):Prop:=match P.underlying t with
 |some (.struct _)=> ∃ ps,p= .agg ps∧Arg P c t ps
 |some (.array _ _)=> ∃ ps,p= .agg ps∧Arg P c t ps
 |_=>Arg P c t [p]
theorem arg_value{c:Nat}{t:TypeId}(hc:covB P c t=true){v:Value}{d:DataW H}{pl:List MemPlace}(h:DataW.Trod enc P w 0 sp held t v d pl)(hv: ∃ base,Value.okWide P w .any base t v)
  (hw: ∀ n∈d.weights P t,n≤reachBytes): ∃ p,ArgV P c t p∧ ∀ β n,Rep β n (fun b=>b<w.heap.size) w p v:=by
 obtain⟨fuel,hf⟩:=h;obtain⟨ps,h1,h2⟩:=arg_of c t hc fuel _ _ hf hw;obtain⟨base,hv⟩:=hv;unfold Value.okWide at hv;cases c with
 |zero=>simp[covB]at hc
 |succ c=>
  unfold covB at hc;unfold ArgV;have one:(∃ q,ps=[q])→(∃ u,v.cells.toList=[u]∧v=u)→ ∃ p,Arg P (c+1) t [p]∧ ∀ β n,Rep β n (fun b=>b<w.heap.size) w p v:=by
   rintro⟨q,rfl⟩ ⟨u,hu,rfl⟩;refine⟨q,h1,fun β n=>?_⟩;have:=h2.2 β n;rw[hu]at this;simp only[RepL]at this;exact this.1
  have agg:(∃ cs,v= .agg cs)→ ∃ p,(∃ ps,p= .agg ps∧Arg P (c+1) t ps)∧ ∀ β n,Rep β n (fun b=>b<w.heap.size) w p v:=by
   rintro⟨cs,rfl⟩;refine⟨.agg ps,⟨ps,rfl,h1⟩,fun β n=>?_⟩;simp only[Rep];exact⟨cs.toList,by simp,h2.1,h2.2 β n⟩
  split at hc
  ·rename_i hu;obtain⟨b,hb,_⟩:=DataW.trod_bool hu hf;simp only[hu]at hv⊢;refine one ?_ ⟨_,hb,?_⟩
   ·unfold Arg at h1;rw[hu]at h1;obtain⟨b,rfl⟩:=h1;exact⟨_,rfl⟩
   ·obtain ⟨b',rfl⟩:=okWide_bool hu (r:= .any) (base:=base) (v:=v) (w:=w) (by unfold Value.okWide;rw[hu];exact hv);simpa[Value.cells]using hb
  ·rename_i k hu;obtain⟨n,hb,_⟩:=DataW.trod_int hu hf;simp only[hu]at hv⊢;refine one ?_ ⟨_,hb,?_⟩
   ·unfold Arg at h1;rw[hu]at h1;obtain⟨n,_,rfl⟩:=h1;exact⟨_,rfl⟩
   ·obtain ⟨b',rfl⟩:=okWide_int hu (r:= .any) (base:=base) (v:=v) (w:=w) (by unfold Value.okWide;rw[hu];exact hv);simpa[Value.cells]using hb
  ·rename_i hu;obtain⟨n,hb,_⟩:=DataW.trod_string hu hf;simp only[hu]at hv⊢;refine one ?_ ⟨_,hb,?_⟩
   ·unfold Arg at h1;rw[hu]at h1;obtain⟨n,_,rfl⟩:=h1;exact⟨_,rfl⟩
   ·obtain ⟨b',rfl⟩:=okWide_string hu (r:= .any) (base:=base) (v:=v) (w:=w) (by unfold Value.okWide;rw[hu];exact hv);simpa[Value.cells]using hb
  ·rename_i e hu;simp only[hu]at hv⊢;obtain⟨a,len,cap,rfl⟩:=okWide_slice hu (r:= .any) (base:=base) (v:=v) (w:=w) (by unfold Value.okWide;rw[hu];exact hv);refine one ?_ ⟨_,rfl,rfl⟩;unfold Arg at h1;rw[hu]at h1;obtain⟨n,rfl,_⟩:=h1;exact⟨_,rfl⟩
  ·rename_i fs hu;simp only[hu]at hv⊢;obtain⟨cs,rfl,_⟩:=hv;exact agg ⟨_,rfl⟩
  ·rename_i n e hu;simp only[hu]at hv⊢;obtain⟨cs,rfl,_⟩:=hv;exact agg ⟨_,rfl⟩
  ·simp at hc
end
end Go.AM
namespace Go.AM
open Go.ChangeShapes Go.WideShapes
section
variable {P:Program}{c:Nat}{t e:TypeId}{ps:List PV}{a:PV}
theorem Arg_slice(hu:P.underlying t=some (.slice e))(h:Arg P (c+1) t ps): ∃ rows,ps=[.imm (P.cellsOf e) rows]∧rows.length*P.bytesOf e≤reachBytes∧rows.length≤maxLen∧ ∀ r∈rows,r.length=P.cellsOf e∧Arg P c e r:=by
 unfold Arg at h;rw[hu]at h;exact h
theorem Arg_struct{fs:Array Field}(hu:P.underlying t=some (.struct fs))(h:Arg P (c+1) t ps):ps.length=P.cellsOf t∧ ∀ p∈partsT P t,Arg P c p.2 ((ps.drop p.1).take (P.cellsOf p.2)):=by
 unfold Arg at h;rw[hu]at h;exact h
theorem rows_map{α:Type}{Q:α→Prop}{f:α→List PV}:(rows:List (List PV))→(∀ r∈rows, ∃ x,Q x∧r=f x)→ ∃ xs:List α,rows=xs.map f∧ ∀ x∈xs,Q x
 |[],_=>⟨[],rfl,by simp⟩
 |r::rows,h=>by
  obtain⟨xs,h1,h2⟩:=rows_map rows (fun q hq=>h q (by simp[hq]));obtain⟨x,h3,h4⟩:=h r (by simp);refine⟨x::xs,by simp[h1,h4],fun y hy=>?_⟩;rcases List.mem_cons.1 hy with rfl|hy
  ·exact h3
  ·exact h2 y hy
theorem argV_slice(hu:P.underlying t=some (.slice e))(h:ArgV P c t a):Arg P c t [a]:=by unfold ArgV at h;rw[hu]at h;exact h
theorem i64_in{n:Int}(h:(Lit.int .i64 n).wf=true): -9223372036854775808≤n∧n≤9223372036854775807:=by
 simp[Lit.wf,IntKind.min,IntKind.max,IntKind.bits,IntKind.signed]at h;omega
end
end Go.AM
namespace Go.Proofs.YtnldekadkjdbcaaGreat
open Go.AM
set_option maxHeartbeats 1000000
set_option maxRecDepth 20000
theorem parts99:partsT Tryz.prog 45=[(0,9),(1,9)]:=by kernel_rfl
theorem co9:Tryz.prog.cellsOf 9=1:=by kernel_rfl
theorem co99:Tryz.prog.cellsOf 45=2:=by kernel_rfl
theorem by99:0<Tryz.prog.bytesOf 45:=by rw[show Tryz.prog.bytesOf 45=32 by kernel_rfl];omega
theorem len_le{n b:Nat}(h:n*b≤reachBytes)(hb:0<b):n≤bigN:=by
 have:=Nat.le_mul_of_pos_right n hb;unfold reachBytes at h;unfold bigN;omega
theorem arg_str{c:Nat}{ps:List PV}(h:Arg Tryz.prog c 9 ps): ∃ s:ByteArray,s.size≤bigN∧ps=[sPV s]:=by
 cases c with
 |zero=>simp[Arg]at h
 |succ c=>
  unfold Arg at h;rw[Tryz.underlying9]at h;obtain⟨s,h1,h2⟩:=h;exact⟨s,by unfold reachBytes at h1;unfold bigN;omega,h2⟩
theorem arg_pm{c:Nat}{ps:List PV}(h:Arg Tryz.prog c 45 ps): ∃ p:Pm,p.ok∧ps=pmRow p:=by
 cases c with
 |zero=>simp[Arg]at h
 |succ c=>
  obtain⟨h1,h2⟩:=Arg_struct Tryz.underlying45 h;rw[co99]at h1;rw[parts99]at h2
  match ps,h1,h2 with
  |[p0,p1],_,h2=>
   have a0:=h2 (0,9) (by simp);have a1:=h2 (1,9) (by simp);simp only[co9,List.drop_zero,List.drop_succ_cons,List.take_succ_cons,List.take_zero]at a0 a1;obtain⟨s,hs,e1⟩:=arg_str a0;obtain⟨t,ht,e2⟩:=arg_str a1;simp at e1 e2;exact⟨⟨s,t⟩,⟨hs,ht⟩,by simp[pmRow,e1,e2]⟩
theorem arg_pms{c:Nat}{ps:List PV}(h:Arg Tryz.prog c 22 ps): ∃ l:List Pm,(l.length≤bigN∧ ∀ a∈l,a.ok)∧ps=[.imm 2 (pmRows l)]:=by
 cases c with
 |zero=>simp[Arg]at h
 |succ c=>
  obtain⟨rows,rfl,h1,_,h2⟩:=Arg_slice Tryz.underlying22 h;obtain⟨xs,rfl,h3⟩:=rows_map (Q:=Pm.ok) (f:=pmRow) rows (fun r hr=>arg_pm (h2 r hr).2);refine⟨xs,⟨len_le (by simpa using h1) by99,h3⟩,?_⟩;rw[co99];try rfl
end Go.Proofs.YtnldekadkjdbcaaGreat
namespace Go.Proofs.YtnldekadkjdbcaaGreat
open Go.AM
set_option maxHeartbeats 2000000
set_option maxRecDepth 20000
theorem checkForest_c{l:List Pm}(hl:l.length≤bigN)(hok: ∀ p∈l,p.ok):PCall Tryz.prog 3 [.imm 2 (pmRows l)] (heapG 0 minI maxI) fun r _=>r= .sc (.bool true):=
 tlaw_c (fun p hp=>by have:=hok p hp;unfold Pm.ok bigN at this;omega) (by unfold bigN at hl;omega) (by simp[heapG]) fun H hH=>tawake_c hH
end Go.Proofs.YtnldekadkjdbcaaGreat
namespace Go.AM
section
variable {P:Program}{w:World}
theorem glb_of_shape{g:Nat}{t:TypeId}{zero:Array Value}(h:w.ShapedOpen P)(hg:g<P.globals.size)(h0:((begin P (fun _ _=>0) default).world.heap[g]?).bind Obj.row? =some (zero,t))(hz:zero.size=1)
  (hb:P.buildable t=true)(hc:P.cellTypes P.depth t=some [t])(hu:P.underlying t=some (.int .i64)): ∃ i:Int,w.cell? ⟨g,0,none⟩=some (.int .i64 i)∧ -9223372036854775808≤i∧i≤9223372036854775807:=by
 obtain⟨cs,hh,hs,hr⟩:=h.1 g zero t hg h0;obtain⟨ts,hts,_,all⟩:=hr hb;obtain rfl:=Option.some.inj (hc.symm.trans hts);have h1:0<cs.size:=by omega
 obtain⟨u,hu',ok⟩:=all 0 cs[0] (by simp[h1]);obtain rfl:u=t:=by simpa using hu'.symm
 have hcell:w.cell? ⟨g,0,none⟩=some cs[0]:=by simp[World.cell?,hh,h1]
 rw[hcell];unfold Cell.ok at ok;rw[hu]at ok;generalize cs[0]=c at ok;cases c<;>simp at ok;rename_i k n;obtain⟨rfl,hn⟩:=ok;unfold IntKind.has at hn;exact⟨n,rfl,hn⟩
end
end Go.AM
