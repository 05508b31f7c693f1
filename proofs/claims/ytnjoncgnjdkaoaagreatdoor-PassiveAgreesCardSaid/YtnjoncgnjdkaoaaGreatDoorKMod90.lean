/-
  M, chapter 23: sums, reversals and multiples of made automata fit.
-/
import Derived.Test.YtnjoncgnjdkaoaaGreatDoorKMod87
set_option linter.unusedVariables false
set_option linter.unusedSimpArgs false
namespace Go.AL
open Go Go.BigFrame
section
variable {P:Program}{E:Env}{K:S->Prop}{s:S}{ty:Nat}{pos:String}{after:Array Edge}
theorem RO.all {M Mk:Mem}{id b n c e sz:Nat}{es:List D}{d:D}(hM:M id=some (.row b c e sz es))(hk:Mk id=Option.none)(hn:n=es.length)(hd:d=.sl es):RO M Mk (.bF id b n c) (.d d):=by
 subst hn hd;have h:=RO.bF (M:=M) (Mk:=Mk) hM hk (Nat.le_refl es.length)
 rwa [List.take_length] at h
end
theorem aj.read {P:Program}{f id b c e sz:Nat}{es:List D}{args pR:List V}{x:Value}(h:aj P f args (.d (.sc x)))(ha:fH (pR.map (V.YZ id b c es)) args) :
  eX P f pR (mem1 id (.row b c e sz es)) (.d (.sc x)) (mem1 id (.row b c e sz es)) :=
 ⟨h.1,λF w vals hS hv=>by
  obtain⟨F',h1,h2,h3,h4⟩:=wK hS (Bo id (.row b c e sz es));have hv':kU F' vals args:=qw ⟨by rw[hv.1,dJ],λi y u hy hu=>by
   rw[List.getElem?_map] at hy;cases hq:pR[i]? with
   | none=>rw[hq] at hy;cases hy
   | some z=>rw[hq] at hy;cases hy;exact V.KA h1 h4 (hv.2 i z u hq hu)⟩ ha
  refine (h.2 F' w vals h2.rM hv').mono λe2 w' ⟨v,F'',he,hx,hr⟩=>⟨v,F,he,⟨hx.grow.mono λi k=>k.elim,Hp.le.refl _,⟨λk o hk=>hx.rM k o (hx.le k o (h1 k o hk)),λj blk hm=>?_,hS.apart,hS.inj⟩,λk p q=>absurd p q,λk k2=>.inr k2⟩,?_⟩
  .refine (hS.own j blk hm).keep (Hp.le.refl _) λk ho=>hx.grow.block k ((hS.own j blk hm).lt ho) λq=>q
  .cases hr with
   | d hd ho=>cases hd with
    | sc hs=>exact .d (.sc hs) ho⟩
section
variable {P:Program}{E:Env}
theorem SG.fM {ops:Array Oper}{o:Oper}{K:S->Prop}{s:S}(h:OL P 0 ops K [o] s):SG P E ops o K s:=.inl h
theorem SG.IY {ops:Array Oper}{dst:Option Nat}{op:Op}{ty:TypeId}{pos:String}{after:Array Edge}{K:S->Prop}{s:S}(h:SO P E ⟨dst,op,ty,pos,after,none⟩ K s):SG P E ops ⟨dst,op,ty,pos,after,none⟩ K s:=.inr ⟨rfl,h⟩
def OTK (P:Program)(E:Env)(ops:Array Oper)(K:S->Prop):Nat->Array Bool->S->Prop
 | 0,listed,s=>Region.ready .any ops listed=[]/\K s
 | n+1,listed,s=>Region.ready .any ops listed≠[]/\∀ i,i ∈ Region.ready .any ops listed->∃ o,ops[i]? = some o/\SG P E ops o (OTK P E ops K n (listed.setIfInBounds i true)) s
def ZF (P:Program)(E:Env)(ops:Array Oper)(K:S->Prop)(n:Nat)(listed:Array Bool)(s:S):List Nat->List Oper->Prop
 | [],[]=>True
 | i::l,o::os=>SG P E ops o (OTK P E ops K n (listed.setIfInBounds i true)) s/\ZF P E ops K n listed s l os
 | _,_=>False
theorem ZF.get {ops:Array Oper}{K:S->Prop}{n:Nat}{listed:Array Bool}{s:S}:∀ (l:List Nat) (os:List Oper),l.map (λi=>ops[i]?)=os.map some->ZF P E ops K n listed s l os->∀ i,i ∈ l->∃ o,ops[i]? = some o/\SG P E ops o (OTK P E ops K n (listed.setIfInBounds i true)) s
 | [],_,_,_,i,hi=>by simp at hi
 | j::l,[],h,_,_,_=>by simp at h
 | j::l,o::os,h,ht,i,hi=>by
  simp only[List.map_cons,List.cons.injEq] at h;rcases List.mem_cons.1 hi with rfl|hi
  .exact⟨o,h.1,ht.1⟩
  .exact ZF.get l os h.2 ht.2 i hi
theorem OTK.node {ops:Array Oper}{K:S->Prop}{n:Nat}{listed:Array Bool}{s:S}(l:List Nat){os:List Oper}(h:Region.ready .any ops listed=l)(hne:l≠[])(ho:l.map (λi=>ops[i]?)=os.map some)(ht:ZF P E ops K n listed s l os):OTK P E ops K (n+1) listed s :=
 ⟨by rw[h];exact hne,λi hi=>ZF.get l os ho ht i (by rw[<- h];exact hi)⟩
theorem OTK.leaf {ops:Array Oper}{K:S->Prop}{listed:Array Bool}{s:S}(h:Region.ready .any ops listed=[])(hk:K s):OTK P E ops K 0 listed s:=⟨h,hk⟩
end
def Mem.P6 (M Mc N:Mem):Mem:=λid=>if (N id).isSome then N id else if (Mc id).isSome then Option.none else M id
section
variable {P:Program}{E:Env}{K:S->Prop}{s:S}{ty:Nat}{pos:String}{after:Array Edge}
theorem After.P6 {F F' : Hp} {w w' : World} {M Mc N : Mem} (h : wI F M w) (hc : ∀ id blk, Mc id = some blk -> M id = some blk) (ha : After F Mc w F' N w') : After F M w F' (M.P6 Mc N) w' := by
  have sub:∀ k,jM Mc k->jM M k:=λk ⟨id,blk,hm,ho⟩=>⟨id,blk,hc id blk hm,ho⟩;have part:∀ id blk,(M.P6 Mc N) id=some blk->N id=some blk \/ (Mc id=Option.none/\M id=some blk):=λid blk hm=>by
    unfold Mem.P6 at hm;cases hq:N id with
    | some b=>simp[hq] at hm;exact .inl (by rw[<- hm])
    | none =>
      simp only[hq,Option.isSome_none,Bool.false_eq_true,if_false] at hm;cases hp:Mc id with
      | some b=>simp[hp] at hm
      | none=>simp[hp] at hm;exact .inr ⟨rfl,hm⟩
  have far:∀ id blk k,Mc id=Option.none->M id=some blk->blk.owns k->k<w.heap.size/\¬ jM Mc k:=λid blk k hn hm ho =>
    ⟨(h.own id blk hm).lt ho, λ⟨id', jE, hm', ho'⟩ => by
      have:=h.inj id id' _ _ k hm (hc id' jE hm') ho ho';subst this;rw[hn] at hm';cases hm'⟩
  refine⟨ha.grow.mono sub,ha.le,⟨ha.gU.rM,λid blk hm=>?_,λid blk k hm ho=>?_,λi j bi bj k hi hj hoi hoj=>?_⟩,λk p q=>(ha.new k p q).imp (λz=>z) (sub k),λk ⟨id,blk,hm,ho⟩=>?_⟩
  · rcases part id blk hm with hm | ⟨hn, hm⟩
    · exact ha.gU.own id blk hm
    · exact (h.own id blk hm).keep ha.le λk ho=>let ⟨h1,h2⟩:=far id blk k hn hm ho;ha.grow.block k h1 h2
  · rcases part id blk hm with hm | ⟨hn, hm⟩
    · exact ha.gU.apart id blk k hm ho
    · obtain⟨h1, h2⟩:=far id blk k hn hm ho
      cases hf:F' k with
      | none=>rfl
      | some o =>
        rcases ha.new k (h.apart id blk k hm ho) (by rw[hf];simp) with h3|h3
        · omega
        · exact absurd h3 h2
  · rcases part i bi hi with hi | ⟨ni, hi⟩ <;> rcases part j bj hj with hj | ⟨nj, hj⟩
    · exact ha.gU.inj i j bi bj k hi hj hoi hoj
    · obtain⟨h1, h2⟩:=far j bj k nj hj hoj
      rcases ha.kM k ⟨i,bi,hi,hoi⟩ with h3|h3
      · omega
      · exact absurd h3 h2
    · obtain⟨h1, h2⟩:=far i bi k ni hi hoi
      rcases ha.kM k ⟨j,bj,hj,hoj⟩ with h3|h3
      · omega
      · exact absurd h3 h2
    · exact h.inj i j bi bj k hi hj hoi hoj
  · rcases part id blk hm with hm | ⟨hn, hm⟩
    · exact (ha.kM k ⟨id,blk,hm,ho⟩).imp (λz=>z) (sub k)
    · exact .inr ⟨id,blk,hm,ho⟩
theorem SO.al9 {α:Type}{f:Operand}{args:Array Operand}{ats:Array TypeId}{nR:Nat}{caps args':List V}{Mc:Mem}{Mk:α->Mem}{res:α->V}{φ:α->Prop}{dst:Option Nat}{g:Option (Nat × Bool)}(hd:oV E.n dst)
  (hf:s.ev f=.fn nR caps) (ha:fH (args.toList.map s.ev++caps) args') (hc:∀ id blk,Mc id=some blk->s.M id=some blk) (hs:jw P nR args' Mc res Mk φ)
  (h:∀ x,φ x->K ((⟨s.ρ,s.M.P6 Mc (Mk x)⟩:S).put dst (res x))):SO P E ⟨dst,.call { callee:=.value f,args:=args,argTypes:=ats },ty,pos,after,g⟩ K s:=λF a w hr=>by
 have hf':=hr.eval f;rw[hf] at hf';generalize YQ:a.eval f=af at hf';cases hf' with
 | @fn _ us _ hl hrr =>
  have hvs:kU F (args.toList.map a.eval++us) args':=qw (wJ (oZ hr.eval _) ⟨hl,hrr⟩) ha;have hcc:=hs.2 F w _ (Cm hr.gU hc) hvs;unfold execOp;have e1:(args.map a.eval++us.toArray)=(args.toList.map a.eval++us).toArray:=by simp
  simp only[resolve,YQ,Deferred.ofValue,Sem.run_bind,Sem.run_pure,Result.andThen_ok,invoke,Array.empty_append,e1,mO hs.1];refine hcc.mono λe2 w' ⟨x,hφ,v,F',he,hA,hv⟩=>⟨v,he,F',_,hr.qC (After.P6 hr.gU hc hA) hd hv,h x hφ⟩
end
def DF (l:List Au)(k:Nat):List Rat:=(l.take k).flatMap (·.ini)
def zO (l:List Au)(k:Nat):List Rat:=Rj (l.take k)
def am0 (o:Nat)(a:Au)(s i j:Nat):Rat:=if o<=i/\o<=j then (if i-o<a.st/\j-o<a.st then iU a.aS s (i-o) (j-o) else 0) else 0
def cO (l:List Au)(k:Nat)(U:List bH)(s i j:Nat):Rat:=uJ (l.take k) s i j+(if aJ (l.take k)<=i/\aJ (l.take k)<=j then iU U s (i-aJ (l.take k)) (j-aJ (l.take k)) else 0)
section
variable {a b x:Au}{l r:List Au}{s i j k o:Nat}
theorem takeA (hk:k<l.length):l.take (k+1)=l.take k++[l.getD k default]:=by
 rw[List.take_succ_eq_append_getElem hk,ig,lu hk];rfl
theorem P7:aJ (l++r)=aJ l+aJ r:=by simp[aJ]
theorem uM (hk:k<l.length):aJ (l.take (k+1))=aJ (l.take k)+(l.getD k default).st:=by rw[takeA hk,P7];simp[aJ]
theorem Jf (hk:k<l.length):DF l (k+1)=DF l k++(l.getD k default).ini:=by unfold DF;rw[takeA hk,List.flatMap_append];simp
theorem am1:∀ (l:List Au),l≠[]->Rj (l++[a])=Rj l++a.fin.map λx=>-x
 | [],h=>absurd rfl h
 | b::r,_=>by
  show b.fin++(r++[a]).flatMap (λb=>b.fin.map λx=>-x)=(b.fin++r.flatMap λb=>b.fin.map λx=>-x)++_
  rw[List.flatMap_append,List.append_assoc];simp
theorem P8 (hk:k<l.length)(hp:0<k):zO l (k+1)=zO l k++(l.getD k default).fin.map λx=>-x:=by
 unfold zO;rw[takeA hk,am1 _ (λh=>by have:=congrArg List.length h;rw[List.length_take,List.length_nil] at this;omega)]
theorem Uz (hk:0<l.length):zO l 1=(l.getD 0 default).fin:=by
 unfold zO;rw[takeA hk];simp[Rj]
theorem BU (h:∀ a,a ∈ l->a.Ok):∀ k,(DF l k).length=aJ (l.take k)
 | 0=>by simp[DF,aJ]
 | k + 1 => by
  rcases Nat.lt_or_ge k l.length with hk|hk
  .rw[Jf hk,jG,BU h k,uM hk,(h _ (getD_mem hk default)).ini]
  .have:=BU h k;unfold DF at *;rw[List.take_of_length_le hk] at this;rw[List.take_of_length_le (by omega)];exact this
theorem BV (h:∀ a,a ∈ l->a.Ok):∀ k,(zO l k).length=aJ (l.take k)
 | 0=>by simp[zO,Rj,aJ]
 | k + 1 => by
  rcases Nat.lt_or_ge k l.length with hk|hk
  .have hf:=(h _ (getD_mem hk default)).fin;rcases Nat.eq_zero_or_pos k with h0|h0
   .subst h0;rw[Uz hk,uM hk,hf];simp[aJ]
   .rw[P8 hk h0,jG,dJ,BV h k,uM hk,hf]
  .have:=BV h k;unfold zO at *;rw[List.take_of_length_le hk] at this;rw[List.take_of_length_le (by omega)];exact this
theorem P9:∀ (l:List Au) (s i j:Nat),uJ (l++[a]) s i j=uJ l s i j+am0 (aJ l) a s i j
 | [], s, i, j => by
  show (if i<a.st then (if j<a.st then iU a.aS s i j else 0) else (if j<a.st then 0 else 0))=0+(if 0<=i/\0<=j then (if i-0<a.st/\j-0<a.st then iU a.aS s (i-0) (j-0) else 0) else 0)
  rw[Rat.zero_add,if_pos (show 0<=i/\0<=j from ⟨Nat.zero_le _,Nat.zero_le _⟩),Nat.sub_zero,Nat.sub_zero]
  by_cases h1:i<a.st
  .by_cases h2:j<a.st
   .rw[if_pos h1,if_pos h2,if_pos ⟨h1,h2⟩]
   .rw[if_pos h1,if_neg h2,if_neg (λe=>h2 e.2)]
  .rw[if_neg h1,if_neg (show ¬(i<a.st/\j<a.st) from λe=>h1 e.1)];split <;> rfl
 | b :: r, s, i, j => by
  have hs:aJ (b::r)=b.st+aJ r:=by simp[aJ]
  rw[List.cons_append,uJ,uJ,hs];by_cases h1:i<b.st
  .have hb:am0 (b.st+aJ r) a s i j=0:=if_neg (by omega)
   rw[if_pos h1,if_pos h1,hb,Rat.add_zero]
  .by_cases h2:j<b.st
   .have hb:am0 (b.st+aJ r) a s i j=0:=if_neg (by omega)
    rw[if_neg h1,if_neg h1,if_pos h2,if_pos h2,hb,Rat.add_zero]
   .rw[if_neg h1,if_neg h1,if_neg h2,if_neg h2,P9 r];congr 1;unfold am0;rw[show i-b.st-aJ r=i-(b.st+aJ r) by omega,show j-b.st-aJ r=j-(b.st+aJ r) by omega]
    by_cases h3:aJ r<=i-b.st/\aJ r<=j-b.st
    .rw[if_pos h3,if_pos (show b.st+aJ r<=i/\b.st+aJ r<=j by omega)]
    .rw[if_neg h3,if_neg (show ¬(b.st+aJ r<=i/\b.st+aJ r<=j) by omega)]
theorem UA:∀ (l:List Au) (s i j:Nat),aJ l<=i \/ aJ l<=j->uJ l s i j=0
 | [],_,_,_,_=>rfl
 | b :: r, s, i, j, h => by
  have hs:aJ (b::r)=b.st+aJ r:=by simp[aJ]
  rw[hs] at h;rw[uJ];by_cases h1:i<b.st
  .rw[if_pos h1,if_neg (by omega)]
  .rw[if_neg h1]
   split
   .rfl
   .exact UA r s _ _ (by omega)
theorem NK:cO l k [] s i j=uJ (l.take k) s i j:=by
 unfold cO
 split
 .rw[x8,Rat.add_zero]
 .rw[Rat.add_zero]
theorem aD9 (hk:k<l.length)(h:(l.getD k default).Ok):cO l k (dZ (l.getD k default).aS) s i j=uJ (l.take (k+1)) s i j:=by
 rw[takeA hk,P9];unfold cO am0;congr 1;by_cases h1:aJ (l.take k)<=i/\aJ (l.take k)<=j
 .rw[if_pos h1,if_pos h1,Fh];by_cases h2:i-aJ (l.take k)<(l.getD k default).st/\j-aJ (l.take k)<(l.getD k default).st
  .rw[if_pos h2]
  .rw[if_neg h2];exact aj7 (n:=(l.getD k default).st) (λx hx=>⟨(h.arc x hx).1,(h.arc x hx).2.1⟩) (by omega)
 .rw[if_neg h1,if_neg h1]
theorem am2 {T:List bH}(ha:T.Pairwise λa b=>pF a b<0){p:Nat}(hp:p<T.length)(h1:1<=(T.getD p default).l):iU (T.take p) ((T.getD p default).l-1) (T.getD p default).f (T.getD p default).t=0:=by
 refine X5 λy hy=>if_neg λe=>?_;have hs:T=T.take p++T.getD p default::T.drop (p+1):=by
  rw[ig,lu hp];exact (List.take_append_drop p T).symm.trans (by rw[List.drop_eq_getElem_cons hp];rfl)
 rw[hs] at ha;have:=(List.pairwise_append.1 ha).2.2 y hy _ uZ;rw[DC] at this;omega
theorem aE0 {T:List bH}(ha:T.Pairwise λa b=>pF a b<0){p:Nat}(hp:p<T.length)(h1:1<=(T.getD p default).l) :
  cO l k (T.take (p+1)) s i j=if s=(T.getD p default).l-1/\i=aJ (l.take k)+(T.getD p default).f/\j=aJ (l.take k)+(T.getD p default).t then (T.getD p default).q else cO l k (T.take p) s i j:=by
 have ht:T.take (p+1)=T.take p++[T.getD p default]:=by
  rw[List.take_succ_eq_append_getElem hp,ig,lu hp];rfl
 have hn:=am2 ha hp h1;generalize T.getD p default=x at *;unfold cO;rw[ht];by_cases hc:s=x.l-1/\i=aJ (l.take k)+x.f/\j=aJ (l.take k)+x.t
 .rw[if_pos hc];obtain⟨rfl,rfl,rfl⟩:=hc;rw[UA _ _ _ _ (.inl (Nat.le_add_right _ _)),if_pos ⟨Nat.le_add_right _ _,Nat.le_add_right _ _⟩,Nat.add_sub_cancel_left,Nat.add_sub_cancel_left,zK,hn,sK,x8,show wu (x.l-1) x.f x.t x=x.q from if_pos ⟨rfl,by omega,rfl⟩,Rat.zero_add,Rat.zero_add,Rat.add_zero]
 .rw[if_neg hc];congr 1;by_cases h2:aJ (l.take k)<=i/\aJ (l.take k)<=j
  .rw[if_pos h2,if_pos h2,zK,sK,x8,Rat.add_zero,show wu s (i-aJ (l.take k)) (j-aJ (l.take k)) x=0 from if_neg (by omega),Rat.add_zero]
  .rw[if_neg h2,if_neg h2]
end
section
variable {a b:Au}{B k:Nat}{l out:List bH}{x:bH}
theorem am3 (h:∀ y,y ∈ out->sz y.q<=(k+1)*(B+2))(hx:sz x.q<=B):∀ y,y ∈ Ac out x->sz y.q<=(k+2)*(B+2):=by
 have up:∀ n,n<=(k+1)*(B+2)->n<=(k+2)*(B+2):=λn hn=>Nat.le_trans hn (Nat.mul_le_mul_right _ (by omega))
 intro y hy;have h2:(k+2)*(B+2)=(k+1)*(B+2)+(B+2):=Nat.succ_mul _ _;unfold Ac at hy
 split at hy
 .rename_i hc;rcases List.mem_or_eq_of_mem_set hy with hy|rfl
  .exact up _ (h y hy)
  .have h1:=h _ (getD_mem hc.1 default);have h3:=Bd (out.getD (uF out x) default).q x.q;show sz ((out.getD (uF out x) default).q+x.q)<=_
   omega
 .rcases ul hy with hy|hy
  .exact up _ (h y (List.mem_of_mem_take hy))
  .rcases List.mem_cons.1 hy with rfl|hy
   .omega
   .exact up _ (h y (List.mem_of_mem_drop hy))
theorem UB:∀ (l out:List bH) (k:Nat),(∀ x,x ∈ l->sz x.q<=B)->(∀ y,y ∈ out->sz y.q<=(k+1)*(B+2))->∀ y,y ∈ l.foldl Ac out->sz y.q<=(k+l.length+1)*(B+2)
 | [],out,k,_,h=>h
 | x::l,out,k,hz,h=>by
  rw[List.foldl_cons,List.length_cons,show k+(l.length+1)+1=(k+1)+l.length+1 by omega]
  exact UB l _ (k+1) (λy hy=>hz y (List.mem_cons_of_mem _ hy)) (am3 h (hz x uZ))
theorem ZG (out:List bH)(x:bH):(Ac out x).length<=out.length+1:=by
 unfold Ac
 split
 .rw[List.length_set];omega
 .rw[jG,List.length_cons,List.length_take,List.length_drop];omega
theorem Qa:∀ (l out:List bH),(l.foldl Ac out).length<=out.length+l.length
 | [],out=>Nat.le_refl _
 | x::l,out=>by
  rw[List.foldl_cons,List.length_cons];have:=Qa l (Ac out x);have:=ZG out x;omega
theorem Jg (l:List bH):(uh l).length<=l.length:=by
 unfold uh Sj;refine Nat.le_trans (List.length_filter_le ..) ?_;have:=Qa l [];rw[List.length_nil,Nat.zero_add] at this;exact this
theorem UC (hz:∀ x,x ∈ l->sz x.q<=B):∀ y,y ∈ uh l->sz y.q<=(l.length+1)*(B+2):=λy hy=>by
 have:=UB l [] 0 hz (λy hy=>by cases hy) y (List.mem_filter.1 hy).1
 rwa [Nat.zero_add] at this
theorem Au.Sz.wide (h:a.Sz 1 10):a.Sz 134217728 20 :=
 ⟨λq hq=>Nat.le_trans (h.ini q hq) (by decide),λq hq=>Nat.le_trans (h.fin q hq) (by decide),λx hx=>Nat.le_trans (h.arc x hx) (by decide),Nat.le_trans h.num (by decide)⟩
theorem Au.Sz.form (h:a.Sz 1 10):(Gs a).Sz 134217728 20:=by
 refine⟨h.wide.ini,h.wide.fin,λx hx=>?_,Nat.le_trans (Jg a.aS) (Nat.le_trans h.num (by decide))⟩
 have h1:=UC h.arc x hx;have h2:=Nat.mul_le_mul_right (1+2) (show a.aS.length+1<=11 by have:=h.num;omega)
 omega
theorem Au.Pj.form (h:a.Pj):(Gs a).Pj:=⟨h.st,h.ini,h.fin,λs i j=>by rw[show iU (Gs a).aS s i j=iU a.aS s i j from PL];exact h.ent s i j⟩
end
section
variable {a b:Au}{B N K:Nat}{q:Rat}{s i j:Nat}
theorem Au.Sz.rev (h:a.Sz 1 10):(Ul a).Sz 40 10:=by
 have hl:(a.aS.map λx=>(⟨x.t,x.l,x.f,x.q⟩:bH)).length=a.aS.length:=dJ ..;refine⟨λy hy=>Nat.le_trans (h.fin y hy) (by decide),λy hy=>Nat.le_trans (h.ini y hy) (by decide),λx hx=>?_,Nat.le_trans (Jg _) (by rw[hl];exact h.num)⟩
 have hy9:∀ y,y ∈ (a.aS.map λx=>(⟨x.t,x.l,x.f,x.q⟩:bH))->sz y.q<=1:=λy hy=>by
  obtain⟨x,hx,rfl⟩:=mM hy;exact h.arc x hx
 have h1:sz x.q<=_:=UC hy9 x hx;have h2:=Nat.mul_le_mul_right (1+2) (show (a.aS.map λx=>(⟨x.t,x.l,x.f,x.q⟩:bH)).length+1<=11 by rw[hl];have:=h.num;omega)
 omega
theorem Au.Sz.up {B2 N2:Nat}(h:a.Sz B N)(hb:B<=B2)(hn:N<=N2):a.Sz B2 N2 :=
 ⟨λq hq=>Nat.le_trans (h.ini q hq) hb,λq hq=>Nat.le_trans (h.fin q hq) hb,λx hx=>Nat.le_trans (h.arc x hx) hb,Nat.le_trans h.num hn⟩
theorem ZH {l:List bH}:iU (l.map λx=>(⟨x.t,x.l,x.f,x.q⟩:bH)) s i j=iU l s j i:=by
 unfold iU;rw[TU];refine MO λx _=>?_;show (if x.t=i/\x.l=s+1/\x.f=j then x.q else 0)=if x.f=j/\x.l=s+1/\x.t=i then x.q else 0
 by_cases hc:x.f=j/\x.l=s+1/\x.t=i
 .rw[if_pos hc,if_pos ⟨hc.2.2,hc.2.1,hc.1⟩]
 .rw[if_neg hc,if_neg λhd=>hc ⟨hd.2.2,hd.2.1,hd.1⟩]
theorem Au.Pj.rev (h:a.Pj):(Ul a).Pj:=⟨h.st,h.fin,h.ini,λs i j=>by
 show sz (iU (uh _) s i j)<=24
 rw[PL,ZH];exact h.ent ..⟩
