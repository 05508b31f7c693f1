/-
  AL, part 15: a region whose order is open, by one order.
-/
import Derived.Test.YtnjoncgnjdkaoaaGreatDoorKAlgb
set_option linter.unusedVariables false
set_option linter.unusedSimpArgs false
namespace Go.AL
open Go Go.BigFrame
section
variable {P:Program}{ev:Operand->V}{M:Mem}{m:Nat}
theorem eU.unique {t:Nat}{zs zs':List V}(h:eU P t zs)(h':eU P t zs'):zs=zs':=by
 have a:=h.i;rw[h'.i] at a;simp only[Option.some.injEq,Prod.mk.injEq] at a;exact a.1.symm
theorem yT.wL {t d:Nat}{g:Nat->Nat->V × iE}(h:yT P ev d (.alloc t) g):∃ zs,eU P t zs/\g=λb _=>(.ptr d b 0,.box b t zs):=by
 cases h with
 | alloc hz=>exact⟨_,hz,rfl⟩
theorem aY6 {op:Op}(h:kindOf op=3):∃ t,op=.alloc t:=by
 unfold kindOf at h
 split at h <;> first|(exfalso;omega)|exact⟨_,rfl⟩
theorem OW.wL {o:Oper}{t:Nat}{s:S}{K:S->Prop}(hm:m≠0)(ht:o.op=.alloc t)(h:OW P m o K s) :
  ∃ d zs,o.dst=some d/\s.M d=none/\eU P t zs/\∀ b,K ⟨upd s.ρ d (.ptr d b 0),upd s.M d (some (.box b t zs))⟩:=by
 have hk:kindOf o.op=3:=by rw[ht];rfl
 rcases h with ⟨v,hp,h⟩|⟨v,hp,h⟩|⟨d,g,e,e',hp,h⟩|⟨d,id,g,e,e',hp,h⟩|⟨e,M',hp,h⟩|⟨e,v,M',hp,h⟩|⟨e,v,hp,h⟩
 .rcases hp with hp|hp
  .have:=hp.kind;omega
  .have:=hp.kind;omega
 .have:=hp.kind;omega
 .rw[ht] at hp;obtain⟨zs,hz,rfl⟩:=hp.wL;exact⟨d,zs,e,e'.1,hz,λb=>h b 0⟩
 .have:=hp.kind;omega
 .have:=hp.kind;omega
 .have:=hp.kind;omega
 .have:=hp.kind;omega
theorem OW.D6 {o:Oper}{s:S}{K:S->Prop}{t d:Nat}{zs:List V}(ho:o.op=.alloc t)(hd:o.dst=some d)(hM:s.M d=none)(hz:eU P t zs)
  (h:∀ b,K ⟨upd s.ρ d (.ptr d b 0),upd s.M d (some (.box b t zs))⟩):OW P m o K s :=
 .inr (.inr (.inl ⟨d,_,hd,⟨hM,.inl (by rw[ho];simp[DN])⟩,by rw[ho];exact .alloc hz,λb _=>h b⟩))
theorem ax7 {o:Oper}(h:fE m o=3):kindOf o.op=3:=by
 unfold fE at h
 split at h
 .omega
 .split at h
  .omega
  .split at h
   .omega
   .exact h
theorem ad2 {p i:Oper}{ops:Array Oper}(ha:p.apart ops i=true)(hm:m≠0)(hp:fE m p=3 \/ fE m p=4 \/ fE m p=7 \/ fE m p=8)(hi:fE m i=3)(hgp:p.guard=none)(hgi:i.guard=none){s:S}{K:S->Prop}
  (h:OG P m ops p (OG P m ops i K) s):OG P m ops i (OG P m ops p K) s:=by
 obtain⟨a1,a2,a3,a4,a5⟩:=EO ha;obtain⟨t,ht⟩:=aY6 (ax7 hi);have ep:∀ (K:S->Prop) (s:S),OG P m ops p K s=OW P m p K s:=λK s=>by unfold OG;simp only[hgp]
 have ei:∀ (K:S->Prop) (s:S),OG P m ops i K s=OW P m i K s:=λK s=>by unfold OG;simp only[hgi]
 have hi3:fE m i≠4/\fE m i≠5/\fE m i≠7:=by omega
 have QI:∀ v,RdW P m p v s->OG P m ops i K (s.put p.dst v)->OG P m ops i (OG P m ops p K) s:=λv hv h =>
  (h.frame ha hm).mono λs' ⟨hk',hr⟩=>(PG.rel (p:=p) (i:=i) (ops:=ops) ha (λe=>by have:=yV (m:=m) (o:=p) (by omega);omega) (λ_=>hi3) (by unfold PG;simp only[hgp];exact hv) hr).og hk'
 have hev:∀ (x:Nat) (b:Nat) (N:Mem) (q:Operand),i.dst=some x->q ∈ p.op.operands.toList->S.ev ⟨upd s.ρ x (.ptr x b 0),N⟩ q=s.ev q:=λx b N q hx hq=>by
  cases q with
  | tmp u =>
   have:u≠x:=λe=>a5 _ hq x hx (by rw[e])
   simp[S.ev,upd,this]
  | _=>rfl
 rw[ep] at h;rcases h with ⟨v,hpp,h⟩|⟨v,hpp,h⟩|⟨d,g,e,e',hpp,h⟩|⟨d,id,g,e,e',hpp,h⟩|⟨e,M',hpp,h⟩|⟨e,v,M',hpp,h⟩|⟨e,v,hpp,h⟩
 .exact QI v (hpp.elim .inl (λh=>.inr (.inl h))) h
 .exact QI v (.inr (.inr (.inl hpp))) h
 .have h':∀ b c,OW P m i K ⟨upd s.ρ d (g b c).1,upd s.M d (some (g b c).2)⟩:=λb c=>by have:=h b c;rwa [ei] at this
  obtain⟨x,zs,hx,S9,hz,_⟩:=(h' 0 0).wL hm ht;have hxd:x≠d:=λe1=>a2 d e (by rw[hx,e1])
  simp only[upd_ne _ _ hxd] at S9;have all:∀ b c b',K ⟨upd (upd s.ρ d (g b c).1) x (.ptr x b' 0),upd (upd s.M d (some (g b c).2)) x (some (.box b' t zs))⟩:=λb c b'=>by
   obtain⟨x',zs',hx',_,hz',hk⟩:=(h' b c).wL hm ht;rw[hx] at hx';cases hx'
   have:=hz'.unique hz;subst this;exact hk b'
  rw[ei];refine OW.D6 ht hx S9 hz λb'=>?_;rw[ep];refine .inr (.inr (.inl ⟨d,g,e,⟨by simp only[upd_ne _ _ (Ne.symm hxd)];exact e'.1,e'.2⟩,hpp.congr λq hq=>hev x b' _ q hx hq,λb c=>?_⟩))
  have:=all b c b'
  rwa [tC _ _ _ (Ne.symm hxd),tC s.M _ _ (Ne.symm hxd)] at this
 .have hrow:=hpp.row;have h':∀ b c,OW P m i K ⟨upd s.ρ d (g b c).1,upd (upd s.M id (some jA)) d (g b c).2⟩:=λb c=>by have:=h b c;rwa [ei] at this
  obtain⟨x,zs,hx,S9,hz,_⟩:=(h' 0 0).wL hm ht;have hxd:x≠d:=λe1=>a2 d e (by rw[hx,e1])
  simp only[upd_ne _ _ hxd] at S9;have hxi:x≠id:=λe1=>by rw[e1,upd_same] at S9;cases S9
  simp only[upd_ne _ _ hxi] at S9;have all:∀ b c b',K ⟨upd (upd s.ρ d (g b c).1) x (.ptr x b' 0),upd (upd (upd s.M id (some jA)) d (g b c).2) x (some (.box b' t zs))⟩:=λb c b'=>by
   obtain⟨x',zs',hx',_,hz',hk⟩:=(h' b c).wL hm ht;rw[hx] at hx';cases hx'
   have:=hz'.unique hz;subst this;exact hk b'
  rw[ei];refine OW.D6 ht hx S9 hz λb'=>?_;rw[ep];refine .inr (.inr (.inr (.inl ⟨d,id,g,e,by simp only[upd_ne _ _ (Ne.symm hxd)];exact e',?_,λb c=>?_⟩)))
  .have h2:=hpp.congr (ev':=S.ev ⟨upd s.ρ x (.ptr x b' 0),upd s.M x (some (.box b' t zs))⟩) λq hq=>hev x b' _ q hx hq;have aN3:(upd s.M x (some (iE.box b' t zs))) id=s.M id:=upd_ne _ _ (Ne.symm hxi);generalize p.op=op at h2;cases h2 with
   | own ha hs hM hn hx hT hsz hb hm=>exact .own ha hs (aN3.trans hM) hn hx hT hsz hb hm
   | Vx ha hs hM hn hx hT hsz hb hm=>exact .Vx ha hs (aN3.trans hM) hn hx hT hsz hb hm
   | ownB ha hs hM hn hx hT hsz hb hm=>exact .ownB ha hs (aN3.trans hM) hn hx hT hsz hb hm
  .have:=all b c b'
   rwa [tC _ _ _ (Ne.symm hxd),tC _ _ _ (Ne.symm hxd),tC _ _ _ (Ne.symm hxi)] at this
 .have h1:=hpp.kind;have h2:=yV (m:=m) (o:=p) (by omega);omega
 .have h':OW P m i K ((⟨s.ρ,M'⟩:S).put p.dst v):=by rwa [ei] at h
  obtain⟨x,zs,hx,S9,hz,hk⟩:=h'.wL hm ht;rw[S.xJ] at S9;generalize hop:p.op=op at hpp;cases hpp with
  | @mk f args ats nR caps args' res Mc DX hf hla hc hc' hs =>
   have VG:Mc x=none:=by
    cases hq:Mc x with
    | none=>rfl
    | some b =>
     simp only[Mem.over,hq,Option.isSome_some,if_true] at S9;have:=(hc' x).2 S9;rw[this] at hq;cases hq
   have YW:s.M x=none:=by
    simpa [Mem.over,VG] using S9
   rw[ei];refine OW.D6 ht hx YW hz λb'=>?_;rw[ep];have ad3:Mem.over (upd s.M x (some (iE.box b' t zs))) Mc DX = upd (Mem.over s.M Mc DX) x (some (iE.box b' t zs)):=by
    funext id;unfold Mem.over upd;by_cases hid:id=x
    .subst hid;simp only[VG,Option.isSome_none,if_true];rfl
    .simp only[hid,if_false]
   have hev2:∀ q,q ∈ (Op.call { callee:=.value f,args:=args,argTypes:=ats }).operands.toList->S.ev ⟨upd s.ρ x (.ptr x b' 0),upd s.M x (some (.box b' t zs))⟩ q=s.ev q:=λq hq=>hev x b' _ q hx (by rw[hop];exact hq)
   refine .inr (.inr (.inr (.inr (.inr (.inl ⟨e,v,Mem.over (upd s.M x (some (iE.box b' t zs))) Mc DX,?_,?_⟩)))))
   .have h0:qx P s.ev (upd s.M x (some (.box b' t zs))) (.call { callee:=.value f,args:=args,argTypes:=ats }) v (Mem.over (upd s.M x (some (.box b' t zs))) Mc DX):=.mk hf hla (λid blk hid=>by
     have:id≠x:=λe1=>by subst e1;rw[VG] at hid;cases hid
     rw[upd_ne _ _ this];exact hc id blk hid) hc' hs
    rw[hop];exact h0.congr hev2
   .have h3:=hk b';rw[S.xJ] at h3;rw[ad3];cases SX:p.dst with
    | none=>rw[SX] at h3;exact h3
    | some d =>
     rw[SX] at h3;have hdx:d≠x:=λe1=>a2 d SX (by rw[hx,e1])
     show K ⟨upd (upd s.ρ x (.ptr x b' 0)) d v,_⟩
     rw[tC _ _ _ (Ne.symm hdx)];exact h3
  | @inv y name args ats nR rv args' res Mc DX hr hla hc hc' hs =>
   have VG:Mc x=none:=by
    cases hq:Mc x with
    | none=>rfl
    | some b =>
     simp only[Mem.over,hq,Option.isSome_some,if_true] at S9;have:=(hc' x).2 S9;rw[this] at hq;cases hq
   have YW:s.M x=none:=by
    simpa [Mem.over,VG] using S9
   rw[ei];refine OW.D6 ht hx YW hz λb'=>?_;rw[ep];have ad3:Mem.over (upd s.M x (some (iE.box b' t zs))) Mc DX = upd (Mem.over s.M Mc DX) x (some (iE.box b' t zs)):=by
    funext id;unfold Mem.over upd;by_cases hid:id=x
    .subst hid;simp only[VG,Option.isSome_none,if_true];rfl
    .simp only[hid,if_false]
   have hev2:∀ q,q ∈ (Op.call { callee:=.invoke y name,args:=args,argTypes:=ats }).operands.toList->S.ev ⟨upd s.ρ x (.ptr x b' 0),upd s.M x (some (.box b' t zs))⟩ q=s.ev q:=λq hq=>hev x b' _ q hx (by rw[hop];exact hq)
   refine .inr (.inr (.inr (.inr (.inr (.inl ⟨e,v,Mem.over (upd s.M x (some (iE.box b' t zs))) Mc DX,?_,?_⟩)))))
   .have h0:qx P s.ev (upd s.M x (some (.box b' t zs))) (.call { callee:=.invoke y name,args:=args,argTypes:=ats }) v (Mem.over (upd s.M x (some (.box b' t zs))) Mc DX):=.inv (hr.mono λid blk hid=>by
     have:id≠x:=λe1=>by subst e1;rw[YW] at hid;cases hid
     rw[upd_ne _ _ this];exact hid) hla (λid blk hid=>by
     have:id≠x:=λe1=>by subst e1;rw[VG] at hid;cases hid
     rw[upd_ne _ _ this];exact hc id blk hid) hc' hs
    rw[hop];exact h0.congr hev2
   .have h3:=hk b';rw[S.xJ] at h3;rw[ad3];cases SX:p.dst with
    | none=>rw[SX] at h3;exact h3
    | some d =>
     rw[SX] at h3;have hdx:d≠x:=λe1=>a2 d SX (by rw[hx,e1])
     show K ⟨upd (upd s.ρ x (.ptr x b' 0)) d v,_⟩
     rw[tC _ _ _ (Ne.symm hdx)];exact h3
  | @copy ct ce csz cby cid cb cn cc cs cx ces cxs aY8 cha chs chM chn chx chl ch0 chT bk0 =>
   have ax8:upd s.M cid (some (iE.row cb cc ce csz cxs)) x=none:=S9;have hxi:x≠cid:=λe1=>by rw[e1,upd_same] at ax8;cases ax8
   have YW:s.M x=none:=by rw[upd_ne _ _ hxi] at ax8;exact ax8
   rw[ei];refine OW.D6 ht hx YW hz λb'=>?_;rw[ep];have hev2:∀ q,q ∈ (Op.call { callee:=.builtin .copy,args:=#[cs,cx],argTypes:=aY8 }).operands.toList->S.ev ⟨upd s.ρ x (.ptr x b' 0),upd s.M x (some (.box b' t zs))⟩ q=s.ev q:=λq hq=>hev x b' _ q hx (by rw[hop];exact hq)
   refine .inr (.inr (.inr (.inr (.inr (.inl ⟨e,.d (.sc (.int .i64 (cn:Int))),upd (upd s.M x (some (iE.box b' t zs))) cid (some (.row cb cc ce csz cxs)),?_,?_⟩)))))
   .have h0:qx P s.ev (upd s.M x (some (.box b' t zs))) (.call { callee:=.builtin .copy,args:=#[cs,cx],argTypes:=aY8 }) (.d (.sc (.int .i64 (cn:Int)))) (upd (upd s.M x (some (iE.box b' t zs))) cid (some (.row cb cc ce csz cxs))) :=
     .copy cha chs (by rw[upd_ne _ _ (Ne.symm hxi)];exact chM) chn chx chl ch0 chT bk0
    rw[hop];exact h0.congr hev2
   .have h3:=hk b';rw[S.xJ] at h3;rw[tC s.M _ _ hxi];cases SX:p.dst with
    | none=>rw[SX] at h3;exact h3
    | some d =>
     rw[SX] at h3;have hdx:d≠x:=λe1=>a2 d SX (by rw[hx,e1])
     show K ⟨upd (upd s.ρ x (.ptr x b' 0)) d (.d (.sc (.int .i64 (cn:Int)))),_⟩
     rw[tC _ _ _ (Ne.symm hdx)];exact h3
 .exact QI v (.inr (.inr (.inr ⟨e,hpp⟩))) h
theorem Jw.spec {p i:Oper}{ops:Array Oper}(hm:m≠0)(h:Jw m ops p i=true){s:S}{K:S->Prop}(hh:OG P m ops p (OG P m ops i K) s):OG P m ops i (OG P m ops p K) s:=by
 unfold Jw at h;rw[Bool.and_eq_true] at h;obtain⟨ha,hk⟩:=h;by_cases h9:fE m p=9
 .have h9k:fE m i≠4/\fE m i≠5/\fE m i≠7:=by
   rw[h9] at hk;simp only[Bool.and_eq_true,bne_iff_ne,ne_eq] at hk;exact⟨hk.1.1.1,hk.1.1.2,hk.2⟩
  exact SY ha hm (.inr h9) (λe=>by have:=(yV (m:=m) (o:=p) (by omega)).trans e;omega) (λ_=>h9k) hh
 rcases Nat.lt_or_ge 2 (fE m p) with h3|h3
 .have:(fE m p=3 \/ fE m p=4 \/ fE m p=7 \/ fE m p=8)/\fE m i=3/\p.guard=none/\i.guard=none:=by
   split at hk
   .omega
   .omega
   .omega
   .rename_i h1 h2;rw[Bool.and_eq_true] at hk;exact⟨.inl h1,h2,Option.isNone_iff_eq_none.1 hk.1,Option.isNone_iff_eq_none.1 hk.2⟩
   .rename_i h1 h2;rw[Bool.and_eq_true] at hk;exact⟨.inr (.inl h1),h2,Option.isNone_iff_eq_none.1 hk.1,Option.isNone_iff_eq_none.1 hk.2⟩
   .rename_i h1 h2;rw[Bool.and_eq_true] at hk;exact⟨.inr (.inr (.inl h1)),h2,Option.isNone_iff_eq_none.1 hk.1,Option.isNone_iff_eq_none.1 hk.2⟩
   .rename_i h1 h2;rw[Bool.and_eq_true] at hk;exact⟨.inr (.inr (.inr h1)),h2,Option.isNone_iff_eq_none.1 hk.1,Option.isNone_iff_eq_none.1 hk.2⟩
   .rename_i h1;exact absurd h1 h9
   .cases hk
  exact ad2 ha hm this.1 this.2.1 this.2.2.1 this.2.2.2 hh
 .refine SY ha hm (.inl h3) (λe=>?_) (λe=>by have:=ax5 e;omega) hh
  have e2:fE m p=2:=(yV (by omega)).trans e
  rw[e2] at hk;simp only[Bool.and_eq_true,bne_iff_ne,ne_eq,Bool.or_eq_true,decide_eq_true_eq] at hk;exact⟨⟨hk.1.1.1,hk.1.2⟩,λe=>hk.2.resolve_left (λh=>h e)⟩
def OI (P:Program)(m:Nat)(ops:Array Oper)(K:S->Prop):List Nat->S->Prop
 | [],s=>K s
 | i::r,s=>match ops[i]? with
  | some o=>OG P m ops o (OI P m ops K r) s
  | none=>False
def QJ (ops:Array Oper):Nat->List Nat->List Nat
 | 0,acc=>acc
 | n + 1, acc => QJ ops n (acc ++ [match ops[acc.length]? with
   | some o=>o.after.foldl (λs e=>if Region.binds .any e then s ||| 2 ^ e.on ||| acc.getD e.on 0 else s) 0
   | none=>0])
inductive Dep (ops:Array Oper):Nat->Nat->Prop
 | one {i:Nat} {o:Oper} {e:Edge} (ho:ops[i]? = some o) (he:e ∈ o.after.toList) (hb:Region.binds .any e=true):Dep ops e.on i
 | more {p i:Nat} {o:Oper} {e:Edge} (ho:ops[i]? = some o) (he:e ∈ o.after.toList) (hb:Region.binds .any e=true) (h:Dep ops p e.on):Dep ops p i
theorem Lr (ops : Array Oper) : ∀ (n : Nat) (acc : List Nat), (∀ i p, (acc.getD i 0).testBit p = true -> Dep ops p i) -> ∀ i p, ((QJ ops n acc).getD i 0).testBit p = true -> Dep ops p i
 | 0,acc,h=>h
 | n + 1, acc, h => by
  refine Lr ops n _ λi p hb=>?_;rw[ig,List.getElem?_append] at hb
  split at hb
  .exact h i p (by rw[ig];exact hb)
  .rename_i hi;by_cases hi2:i=acc.length
   .subst hi2;simp only[Nat.sub_self,List.getElem?_cons_zero,Option.getD_some] at hb;cases ho:ops[acc.length]? with
    | none=>rw[ho] at hb;simp at hb
    | some o =>
     rw[ho] at hb;simp only at hb;rw[<- Array.foldl_toList] at hb;have key:∀ (l:List Edge) (z:Nat),(∀ e,e ∈ l->e ∈ o.after.toList)->(z.testBit p=true->Dep ops p acc.length) ->
       (l.foldl (λs e=>if Region.binds .any e then s ||| 2 ^ e.on ||| acc.getD e.on 0 else s) z).testBit p=true->Dep ops p acc.length:=by
      intro l
      induction l with
      | nil=>intro z _ hz hb;exact hz hb
      | cons e r ih =>
       intro z hl hz hb;refine ih _ (λx hx=>hl x (List.mem_cons_of_mem _ hx)) (λhz'=>?_) hb
       dsimp only at hz'
       split at hz'
       .rename_i hbe;rw[Nat.testBit_or,Nat.testBit_or,Bool.or_eq_true,Bool.or_eq_true] at hz';rcases hz' with (hz'|hz')|hz'
        .exact hz hz'
        .rw[Nat.testBit_two_pow] at hz';have:e.on=p:=by simpa using hz'
         subst this;exact .one ho (hl e uZ) hbe
        .exact .more ho (hl e uZ) hbe (h _ _ hz')
       .exact hz hz'
     exact key _ 0 (λe he=>he) (λh0=>by simp at h0) hb
   .rw[List.getElem?_eq_none (by simp;omega)] at hb
    simp at hb
def F8 (m:Nat)(ops:Array Oper)(ms:List Nat):List Nat->List Nat->Bool
 | _,[]=>true
 | seen, i :: r => (match ops[i]? with
   | some o=>seen.all λp=>decide (p≠i) && ((ms.getD i 0).testBit p || (match ops[p]? with|some q=>Jw m ops q o|none=>false))
   | none=>false) && F8 m ops ms (i::seen) r
def yw (ops:Array Oper):List Nat->Bool
 | []=>true
 | i::r=>(match ops[i]? with|some o=>o.after.toList.all λe=>!Region.binds .any e || decide (e.on<i)|none=>true) && yw ops r
def VH (m:Nat)(ops:Array Oper)(perm:List Nat):Bool :=
 F8 m ops (QJ ops ops.size []) [] perm && (List.range ops.size).all (λi=>perm.contains i) && yw ops (List.range ops.size) && decide (m≠0) && decide (perm.length=ops.size)
def May (m:Nat)(ops:Array Oper)(p i:Nat):Prop:=p≠i/\(Dep ops p i \/ ∃ q o,ops[p]? = some q/\ops[i]? = some o/\Jw m ops q o=true)
theorem F8.spec {ops:Array Oper}{ms:List Nat}(hms:∀ i p,((ms.getD i 0).testBit p=true)->Dep ops p i):∀ (l seen:List Nat),F8 m ops ms seen l=true ->
  (∀ i,i ∈ l->i<ops.size/\∀ p,p ∈ seen->May m ops p i)/\l.Pairwise (May m ops)
 | [],seen,_=>⟨λi h=>by simp at h,.nil⟩
 | i :: r, seen, h => by
  simp only[F8,Bool.and_eq_true] at h;obtain⟨h1,h2⟩:=h;obtain⟨i1,i2⟩:=F8.spec hms r (i::seen) h2;cases ho:ops[i]? with
  | none=>rw[ho] at h1;cases h1
  | some o =>
   rw[ho] at h1;simp only[List.all_eq_true,Bool.and_eq_true,decide_eq_true_eq,Bool.or_eq_true] at h1;have hi:∀ p,p ∈ seen->May m ops p i:=λp hp=>by
    obtain⟨q1,q2⟩:=h1 p hp;refine⟨q1,?_⟩;rcases q2 with q2|q2
    .exact .inl (hms i p q2)
    .cases hq:ops[p]? with
     | none=>rw[hq] at q2;cases q2
     | some q=>rw[hq] at q2;exact .inr ⟨q,o,rfl,ho,q2⟩
   refine⟨λj hj=>?_,.cons (λj hj=>(i1 j hj).2 i uZ) i2⟩;rcases List.mem_cons.1 hj with rfl|hj
   .exact⟨(Array.getElem?_eq_some_iff.1 ho).1,hi⟩
   .exact⟨(i1 j hj).1,λp hp=>(i1 j hj).2 p (List.mem_cons_of_mem _ hp)⟩
theorem yw.spec {ops:Array Oper}:∀ (l:List Nat),yw ops l=true->∀ i o,i ∈ l->ops[i]? = some o->∀ e,e ∈ o.after.toList->Region.binds .any e=true->e.on<i
 | [],_,i,o,hi,_,_,_,_=>by simp at hi
 | j :: r, h, i, o, hi, ho, e, he, hb => by
  simp only[yw,Bool.and_eq_true] at h;rcases List.mem_cons.1 hi with rfl|hi
  .rw[ho] at h;simp only[List.all_eq_true,Bool.or_eq_true,decide_eq_true_eq] at h;rcases h.1 e he with h|h
   .rw[hb] at h;cases h
   .exact h
  .exact yw.spec r h.2 i o hi ho e he hb
theorem OI.front {ops:Array Oper}{K:S->Prop}{i:Nat}{o:Oper}(hm:m≠0)(ho:ops[i]? = some o)(post:List Nat):∀ (pre:List Nat) {s:S},(∀ p,p ∈ pre->∃ q,ops[p]? = some q/\Jw m ops q o=true) ->
  OI P m ops K (pre++i::post) s->OG P m ops o (OI P m ops K (pre++post)) s
 | [],s,_,h=>by
  simp only[List.nil_append,OI,ho] at h ⊢;exact h
 | p :: pre, s, hc, h => by
  obtain⟨q,hq,hcq⟩:=hc p uZ;simp only[List.cons_append,OI,hq] at h ⊢;exact (Jw.spec hm hcq (h.mono λs' h'=>OI.front hm ho post pre (λx hx=>hc x (List.mem_cons_of_mem _ hx)) h')).mono λ_ h=>by
   simpa only[OI,hq] using h
theorem OG.sound {E:Env}{F:Hp}{s:S}{a:Act}{w:World}{ops:Array Oper}{i:Nat}{o:Oper}{K:S->Prop}{Q':Exit->Act->World->Prop}{next:Act->World->Prop}(ho:ops[i]? = some o)(h:OG P m ops o K s)(hr:Run E F s a w)(hd:oV E.n o.dst)
  (hk:∀ F' s' a' w',Run E F' s' a' w' -> K s' -> next a' w'):wpOp P ops Q' i next a w:=by
 unfold wpOp;simp only[ho];unfold OG at h;cases hg:o.guard with
 | none =>
  simp only[hg] at h;rw[if_pos (by simp[Region.wanted,hg])]
  exact .inl ((h.sound hr hd).wp λu w' ⟨F',s',hr',hk'⟩=>hk F' s' _ w' hr' hk')
 | some q =>
  obtain⟨j,want⟩:=q;simp only[hg] at h;obtain⟨b,h1,h2⟩:=h;have hy:=vw hr h1;rcases h2 with ⟨e,h2⟩|⟨e,h2⟩
  .rw[if_pos (by simp[Region.wanted,hg,hy,e])]
   exact .inl ((h2.sound hr hd).wp λu w' ⟨F',s',hr',hk'⟩=>hk F' s' _ w' hr' hk')
  .rw[if_neg (by simp[Region.wanted,hg,hy,e])]
   exact hk F _ _ w (hr.junk hd) h2
theorem VI {E:Env}{Q:Exit->S->Prop}{ops:Array Oper}{perm:List Nat}(hm:m≠0)(hd:∀ o,o ∈ ops.toList->oV E.n o.dst)(Tc:∀ i o,ops[i]? = some o->∀ e,e ∈ o.after.toList->Region.binds .any e=true->e.on<i)
  (hall:∀ i,i<ops.size->i ∈ perm) (hlt:∀ i,i ∈ perm->i<ops.size) (aY9:perm.Pairwise (May m ops)) :
  ∀ (fuel:Nat) (listed:Array Bool) (s:S) (F:Hp) (a:Act) (w:World),listed.size=ops.size->(perm.filter λi=>!listed.getD i true).length=fuel ->
   (∀ i p,i<ops.size->listed.getD i true=true->Dep ops p i->listed.getD p true=true)->Run E F s a w->OI P m ops (Q .normal) (perm.filter λi=>!listed.getD i true) s ->
   wpAny P .any ops (Jv E Q) fuel listed a w:=by
 have mem_ready:∀ (listed:Array Bool) (i:Nat),i ∈ Region.ready .any ops listed ↔ i<ops.size/\listed.getD i true=false/\∃ o,ops[i]? = some o/\∀ e,e ∈ o.after.toList->Region.binds .any e=true->listed.getD e.on false=true:=λlisted i=>by
  unfold Region.ready;rw[List.mem_filter,List.mem_range];constructor
  .rintro⟨h1,h2⟩
   rw[Bool.and_eq_true] at h2;refine⟨h1,by simpa using h2.1,?_⟩
   have ho:ops[i]? = some ops[i]:=Array.getElem?_eq_getElem h1;refine⟨_,ho,λe he hb=>?_⟩;have h3:=h2.2;rw[ho] at h3;simp only[Option.map_some,Option.getD_some] at h3;rw[<- Array.all_toList,List.all_eq_true] at h3;have:=h3 e he;rw[hb] at this;simpa using this
  .rintro⟨h1,h2,o,ho,h3⟩
   refine⟨h1,?_⟩;rw[Bool.and_eq_true];refine⟨by simp[h2],?_⟩
   rw[ho];simp only[Option.map_some,Option.getD_some];rw[<- Array.all_toList,List.all_eq_true];intro e he;cases hb:Region.binds .any e with
   | false=>rfl
   | true=>simpa using h3 e he hb
 intro fuel
 induction fuel with
 | zero =>
  intro listed s F a w hsz hlen hdown hr h;have hnil:=IK hlen;rw[hnil] at h;refine⟨List.eq_nil_iff_forall_not_mem.2 λi hi=>?_,⟨F,s,hr,h⟩⟩;obtain⟨h1,h2,_⟩:=(mem_ready listed i).1 hi;have:i ∈ perm.filter λi=>!listed.getD i true:=List.mem_filter.2 ⟨hall i h1,by simp[h2]⟩
  rw[hnil] at this;simp at this
 | succ fuel ih =>
  intro listed s F a w hsz hlen hdown hr h;have F9:∀ i,i<ops.size->listed.getD i true=false->∃ j,j ∈ Region.ready .any ops listed:=by
   intro i
   induction i using Nat.strongRecOn with
   | _ i ihi =>
    intro hi hli;have ho:ops[i]? = some ops[i]:=Array.getElem?_eq_getElem hi;by_cases hx:∃ e,e ∈ ops[i].after.toList/\Region.binds .any e=true/\listed.getD e.on false=false
    .obtain⟨e,he,hb,hl⟩:=hx;have hei:=Tc i _ ho e he hb;have hes:e.on<listed.size:=by omega
     exact ihi e.on hei (by omega) (by simpa [Array.getD,hes] using hl)
    .refine⟨i,(mem_ready listed i).2 ⟨hi,hli,_,ho,λe he hb=>?_⟩⟩;cases hl:listed.getD e.on false with
     | true=>rfl
     | false=>exact absurd ⟨e,he,hb,hl⟩ hx
  refine⟨λhnil=>?_,λi hi=>?_⟩
  .exfalso
   have:0<(perm.filter λi=>!listed.getD i true).length:=by omega
   obtain⟨i,hi⟩:=List.exists_mem_of_length_pos this;obtain⟨h1,h2⟩:=List.mem_filter.1 hi;obtain⟨j,hj⟩:=F9 i (hlt i h1) (by simpa using h2)
   rw[hnil] at hj;simp at hj
  .obtain⟨hin,hli,o,ho,ax9⟩:=(mem_ready listed i).1 hi;have aZ0:i ∈ perm.filter λi=>!listed.getD i true:=List.mem_filter.2 ⟨hall i hin,by simp[hli]⟩
   have hilt:i<listed.size:=by omega
   obtain⟨pre,post,hsplit⟩:=List.append_of_mem aZ0;have hpr:(perm.filter λi=>!listed.getD i true).Pairwise (May m ops):=aY9.filter _;rw[hsplit,List.pairwise_append] at hpr;obtain⟨p1,p2,p3⟩:=hpr;have ad5:∀ p,Dep ops p i->listed.getD p true=true:=λp hp=>by
    cases hp with
    | one ho' he hb =>
     rw[ho] at ho';cases ho'
     have h1:=ax9 _ he hb;have h2:=Tc i o ho _ he hb;have h3:∀ k,k<listed.size->listed.getD k false=listed.getD k true:=λk hk=>by simp[Array.getD,hk]
     rw[<- h3 _ (by omega)];exact h1
    | more ho' he hb hp =>
     rw[ho] at ho';cases ho'
     have h1:=ax9 _ he hb;have h2:=Tc i o ho _ he hb;have h3:∀ k,k<listed.size->listed.getD k false=listed.getD k true:=λk hk=>by simp[Array.getD,hk]
     rw[h3 _ (by omega)] at h1
     exact hdown _ p (by omega) h1 hp
   have hcomm:∀ p,p ∈ pre->∃ q,ops[p]? = some q/\Jw m ops q o=true:=λp hp=>by
    obtain⟨_,h1⟩:=p3 p hp i uZ;have hpu:listed.getD p true=false:=by
     have:p ∈ perm.filter λi=>!listed.getD i true:=by rw[hsplit];exact List.mem_append.2 (.inl hp)
     simpa using (List.mem_filter.1 this).2
    rcases h1 with h1|⟨q,o',hq,ho',hc⟩
    .rw[ad5 p h1] at hpu;cases hpu
    .rw[ho] at ho';cases ho'
     exact⟨q,hq,hc⟩
   rw[hsplit] at h;have aN4:=OI.front hm ho post pre hcomm h;have hset:∀ j,(listed.setIfInBounds i true).getD j true=if j=i then true else listed.getD j true:=λj=>by
    simp only[Array.getD_eq_getD_getElem?,Array.getElem?_setIfInBounds];by_cases hji:i=j
    .subst hji;simp[hilt]
    .simp[hji,Ne.symm hji]
   have ad6:(perm.filter λj=>!(listed.setIfInBounds i true).getD j true)=pre++post:=by
    have e1:(perm.filter λj=>!(listed.setIfInBounds i true).getD j true)=(perm.filter λj=>!listed.getD j true).filter λj=>decide (j≠i):=by
     rw[List.filter_filter];apply List.filter_congr;intro j _;rw[hset];by_cases hji:j=i <;> simp[hji]
    rw[e1,hsplit,List.filter_append,List.filter_cons];have hne:∀ l:List Nat,(∀ x,x ∈ l->x≠i)->l.filter (λj=>decide (j≠i))=l:=λl hl=>List.filter_eq_self.2 λx hx=>by simpa using hl x hx
    rw[hne pre λx hx=>(p3 x hx i uZ).1,hne post λx hx=>Ne.symm ((List.pairwise_cons.1 p2).1 x hx).1];simp
   refine OG.sound ho aN4 hr (hd o (by
    obtain⟨h1,h2⟩:=Array.getElem?_eq_some_iff.1 ho;rw[<- h2];exact Array.getElem_mem_toList h1)) λF' s' a' w' hr' hk=>?_
   refine ih _ s' F' a' w' (by simpa using hsz) ?_ ?_ hr' (by rw[ad6];exact hk)
   .rw[ad6];rw[hsplit] at hlen;simp only[jG,List.length_cons] at hlen ⊢;omega
   .intro j p hj hlj hp;rw[hset] at hlj ⊢;by_cases hpi:p=i
    .simp[hpi]
    .rw[if_neg hpi];by_cases hji:j=i
     .subst hji;exact ad5 p hp
     .rw[if_neg hji] at hlj;exact hdown j p hj hlj hp
theorem AW.Td {E:Env}{id:Nat}{ops:Array Oper}{Q:Exit->S->Prop}{s:S}(m:Nat)(perm:List Nat)(hf:P.follows .mixedOrders=true)(hd:xM E.n ops=true)(hc:VH m ops perm=true)
  (h:OI P m ops (Q .normal) perm s):AW P E (.region id ops true) Q s:=λF a w hr=>by
 simp only[VH,Bool.and_eq_true,decide_eq_true_eq] at hc;obtain⟨⟨⟨⟨h1,h2⟩,h3⟩,h4⟩,hlen⟩:=hc;obtain⟨g1,g2⟩:=F8.spec (Lr ops _ [] (λi p hb=>by simp at hb)) perm [] h1
 have hall:∀ i,i<ops.size->i ∈ perm:=λi hi=>by
  have:=List.all_eq_true.1 h2 i (List.mem_range.2 hi);simpa using this
 have hnone:∀ i,(Array.replicate ops.size false).getD i true=if i<ops.size then false else true:=λi=>by
  simp only[Array.getD_eq_getD_getElem?,Array.getElem?_replicate]
  split <;> rfl
 have ad6:(perm.filter λi=>!(Array.replicate ops.size false).getD i true)=perm:=List.filter_eq_self.2 λx hx=>by
  rw[hnone,if_pos (g1 x hx).1];rfl
 have hrun:Run E F s a { w with drawn:=w.drawn+1 }:=⟨⟨hr.gU.rM,λid blk hm=>(hr.gU.own id blk hm).keep (Hp.le.refl F) λ_ _=>rfl,hr.gU.apart,hr.gU.inj⟩,⟨hr.grow.os,hr.grow.tape,hr.grow.output,hr.grow.size,hr.grow.block⟩,hr.f0,hr.yc,hr.kM,hr.size,hr.defers,hr.slots⟩
 exact wp_region_any hf (VI h4 (xM.spec hd) (λi o ho=>yw.spec _ h3 i o (List.mem_range.2 (Array.getElem?_eq_some_iff.1 ho).1) ho) hall (λi hi=>(g1 i hi).1) g2
  ops.size _ s F a _ (by simp) (by rw[ad6];exact hlen) (λi p hi hl _=>by rw[hnone,if_pos hi] at hl;cases hl) hrun (by rw[ad6];exact h))
end
section
variable {P:Program}{m:Nat}{ops:Array Oper}{K:S->Prop}{r:List Oper}{s:S}{dst:Option Nat}{ty:TypeId}{pos:String}{after:Array Edge}{op:Op}
theorem OL.nil (h:K s):OL P m ops K [] s:=h
theorem OL.ow (h:OW P m ⟨dst,op,ty,pos,after,none⟩ (OL P m ops K r) s):OL P m ops K (⟨dst,op,ty,pos,after,none⟩:: r) s:=h
theorem OL.pure {v:V}(hp:Pure P s.ev op v)(h:OL P m ops K r (s.put dst v)):OL P m ops K (⟨dst,op,ty,pos,after,none⟩:: r) s:=.inl ⟨v,.inl hp,h⟩
theorem OL.Tf {v:V}(hp:Af P s.ev op v)(h:OL P m ops K r (s.put dst v)):OL P m ops K (⟨dst,op,ty,pos,after,none⟩:: r) s:=.inl ⟨v,.inr hp,h⟩
theorem OL.load {v:V}(hp:uP P s.ev s.M m op v)(h:OL P m ops K r (s.put dst v)):OL P m ops K (⟨dst,op,ty,pos,after,none⟩:: r) s:=.inr (.inl ⟨v,hp,h⟩)
theorem OL.new {d:Nat}{g:Nat->Nat->V × iE}(hp:yT P s.ev d op g)(hM:s.M d=none)(hn:DN m op=true)(h:∀ b c,OL P m ops K r ⟨upd s.ρ d (g b c).1,upd s.M d (some (g b c).2)⟩) :
  OL P m ops K (⟨some d,op,ty,pos,after,none⟩:: r) s:=.inr (.inr (.inl ⟨d,g,rfl,⟨hM,.inl hn⟩,hp,h⟩))
theorem OL.app {d id:Nat}{g:Nat->Nat->V × Option iE}(hp:GU P s.ev s.M d id op g)(hM:s.M d=none \/ d=id)(h:∀ b c,OL P m ops K r ⟨upd s.ρ d (g b c).1,upd (upd s.M id (some jA)) d (g b c).2⟩) :
  OL P m ops K (⟨some d,op,ty,pos,after,none⟩:: r) s:=.inr (.inr (.inr (.inl ⟨d,id,g,rfl,hM,hp,h⟩)))
theorem OL.store {M':Mem}(hp:yg P s.ev s.M op M')(h:OL P m ops K r ⟨s.ρ,M'⟩):OL P m ops K (⟨none,op,ty,pos,after,none⟩:: r) s:=.inr (.inr (.inr (.inr (.inl ⟨rfl,M',hp,h⟩))))
theorem OL.tH {v:V}{M':Mem}(hp:qx P s.ev s.M op v M')(h:OL P 0 ops K r ((⟨s.ρ,M'⟩:S).put dst v)):OL P 0 ops K (⟨dst,op,ty,pos,after,none⟩:: r) s:=.inr (.inr (.inr (.inr (.inr (.inl ⟨.inl rfl,v,M',hp,h⟩)))))
theorem OL.bk5 {d:Nat}{g:Nat->Nat->V × iE}(hp:yT P s.ev d op g)(hM:s.M d=none)(hn:GX m ⟨some d,op,ty,pos,after,none⟩ = true)(h:∀ b c,OL P m ops K r ⟨upd s.ρ d (g b c).1,upd s.M d (some (g b c).2)⟩) :
  OL P m ops K (⟨some d,op,ty,pos,after,none⟩:: r) s:=.inr (.inr (.inl ⟨d,g,rfl,⟨hM,.inr hn⟩,hp,h⟩))
theorem OL.yes {j:Nat}{b:Bool}(hg:D5 ops s j=some (some b))(h:OL P m ops K (⟨dst,op,ty,pos,after,none⟩:: r) s):OL P m ops K (⟨dst,op,ty,pos,after,some (j,b)⟩:: r) s :=
 ⟨some b,hg,.inl ⟨rfl,h⟩⟩
theorem OL.no {j:Nat}{b:Bool}{b':Option Bool}(hg:D5 ops s j=some b')(hne:b' ≠ some b)(h:OL P m ops K r (s.put dst (.jS []))):OL P m ops K (⟨dst,op,ty,pos,after,some (j,b)⟩:: r) s :=
 ⟨b',hg,.inr ⟨hne,h⟩⟩
theorem OI.aK {l:List Nat}{os:List Oper}(h:l.map (λi=>ops[i]?)=os.map some)(ho:OL P m ops K os s):OI P m ops K l s:=by
 induction l generalizing os s with
 | nil =>
  cases os with
  | nil=>exact ho
  | cons o os=>simp at h
 | cons i l ih =>
  cases os with
  | nil=>simp at h
  | cons o os =>
   simp only[List.map_cons,List.cons.injEq] at h;simp only[OI,h.1];exact OG.mono (show OG P m ops o (OL P m ops K os) s from ho) λs' h'=>ih h.2 h'
end
section
variable {P:Program}{E:Env}{c:Code}{Q:Exit->S->Prop}{s:S}
def lk {α:Type}(d:α):List (Nat × α)->Nat->α
 | [],_=>d
 | (k,v)::r,t=>if t=k then v else lk d r t
def st (l:List (Nat × V))(M:List (Nat × iE)):S:=⟨lk .junk l,lk none (M.map λp=>(p.1,some p.2))⟩
structure S.le (s' s:S):Prop where
 ρ:∀ t,bG (s.ρ t) (s'.ρ t)
 M:∀ id blk,s'.M id=some blk->s.M id=some blk
theorem Run.weak {F:Hp}{s':S}{a:Act}{w:World}(hr:Run E F s a w)(h:S.le s' s):Run E F s' a w :=
  ⟨⟨hr.gU.rM, λid blk hm => hr.gU.own id blk (h.M id blk hm), λid blk k hm => hr.gU.apart id blk k (h.M id blk hm), λi j bi bj k hi hj => hr.gU.inj i j bi bj k (h.M i bi hi) (h.M j bj hj)⟩,
    hr.grow,hr.f0,hr.yc,λid blk k hm=>hr.kM id blk k (h.M id blk hm),hr.size,hr.defers,λt=>h.ρ t F _ (hr.slots t)⟩
theorem AW.weak {s':S}(h:AW P E c Q s')(hle:S.le s' s):AW P E c Q s:=λF a w hr=>h F a w (hr.weak hle)
def Knows (s:S):List (Nat × V)->Prop
 | []=>True
 | (k,v)::r=>bG (s.ρ k) v/\Knows s r
def dw (s:S):List (Nat × iE)->Prop
 | []=>True
 | (k,b)::r=>s.M k=some b/\dw s r
theorem aJ2 {l:List (Nat × V)}(h:Knows s l)(t:Nat):bG (s.ρ t) (lk .junk l t):=by
 induction l with
 | nil=>exact bG.junk _
 | cons p r ih =>
  obtain⟨k,v⟩:=p;unfold lk
  split
  .rename_i e;subst e;exact h.1
  .exact ih h.2
theorem mr {l:List (Nat × iE)}(h:dw s l)(id:Nat)(blk:iE)(hl:lk none (l.map λp=>(p.1,some p.2)) id=some blk):s.M id=some blk:=by
 induction l with
 | nil=>simp[lk] at hl
 | cons p r ih =>
  obtain⟨k,b⟩:=p;simp only[List.map_cons,lk] at hl
  split at hl
  .rename_i e;subst e;cases hl;exact h.1
  .exact ih h.2 hl
theorem AW.to (l:List (Nat × V))(M:List (Nat × iE))(hl:Knows s l)(hM:dw s M)(h:AW P E c Q (st l M)):AW P E c Q s:=h.weak ⟨aJ2 hl,mr hM⟩
theorem au {x y:V}(h:x=y):bG x y:=h ▸ bG.refl x
end
theorem wrap_i64 {n:Int}(h:-9223372036854775808<=n/\n<=9223372036854775807):IntKind.i64.wrap n=n:=by rw[IntKind.wrap_i64];omega
theorem wrap_u64 {n:Int}(h:0<=n/\n<=18446744073709551615):IntKind.u64.wrap n=n:=by simp[IntKind.wrap,IntKind.signed,IntKind.bits];try omega
theorem wrap_u32 {n:Int}(h:0<=n/\n<=4294967295):IntKind.u32.wrap n=n:=by simp[IntKind.wrap,IntKind.signed,IntKind.bits];try omega
theorem gG (n:Int):IntKind.u32.wrap n=n % 4294967296:=by simp[IntKind.wrap,IntKind.signed,IntKind.bits]
theorem CG (n:Int):IntKind.u64.wrap n=n % 18446744073709551616:=by simp[IntKind.wrap,IntKind.signed,IntKind.bits]
section
variable {P:Program}{m:Nat}{ops:Array Oper}{K:S->Prop}{r:List Oper}{s:S}{dst:Option Nat}{ty:TypeId}{pos:String}{after:Array Edge}{op:Op}
theorem ai {x:Operand}{y:D}(hx:s.ev x=.d y)(h:OL P m ops K r (s.put dst (.d y))):OL P m ops K (⟨dst,.move x,ty,pos,after,none⟩:: r) s:=OL.pure (hx ▸ Pure.move x) h
theorem mvM {x:Operand}  (hx:s.ev x=.mt)(h:OL P m ops K r (s.put dst (.mt))):OL P m ops K (⟨dst,.move x,ty,pos,after,none⟩:: r) s:=OL.pure (hx ▸ Pure.move x) h
theorem jq {x:Operand}{id b n c:Nat}(hx:s.ev x=.bF id b n c)(h:OL P m ops K r (s.put dst (.bF id b n c))):OL P m ops K (⟨dst,.move x,ty,pos,after,none⟩:: r) s:=OL.pure (hx ▸ Pure.move x) h
theorem Aa {x:Operand}{id b o:Nat}(hx:s.ev x=.ptr id b o)(h:OL P m ops K r (s.put dst (.ptr id b o))):OL P m ops K (⟨dst,.move x,ty,pos,after,none⟩:: r) s:=OL.pure (hx ▸ Pure.move x) h
theorem zW {x:Operand}{y:List V}(hx:s.ev x=.jS y)(h:OL P m ops K r (s.put dst (.jS y))):OL P m ops K (⟨dst,.move x,ty,pos,after,none⟩:: r) s:=OL.pure (hx ▸ Pure.move x) h
theorem Ky {x:Operand}{f:Nat}{y:List V}(hx:s.ev x=.fn f y)(h:OL P m ops K r (s.put dst (.fn f y))):OL P m ops K (⟨dst,.move x,ty,pos,after,none⟩:: r) s:=OL.pure (hx ▸ Pure.move x) h
theorem aF {x:Operand}{y:D}(hx:s.ev x=.d y)(h:OL P m ops K r (s.put dst (.d y))):OL P m ops K (⟨dst,.assign x,ty,pos,after,none⟩:: r) s:=OL.pure (hx ▸ Pure.assign x) h
theorem oK {x:Operand}  (hx:s.ev x=.mt)(h:OL P m ops K r (s.put dst (.mt))):OL P m ops K (⟨dst,.assign x,ty,pos,after,none⟩:: r) s:=OL.pure (hx ▸ Pure.assign x) h
theorem tJ {x:Operand}{id b n c:Nat}(hx:s.ev x=.bF id b n c)(h:OL P m ops K r (s.put dst (.bF id b n c))):OL P m ops K (⟨dst,.assign x,ty,pos,after,none⟩:: r) s:=OL.pure (hx ▸ Pure.assign x) h
theorem asP {x:Operand}{id b o:Nat}(hx:s.ev x=.ptr id b o)(h:OL P m ops K r (s.put dst (.ptr id b o))):OL P m ops K (⟨dst,.assign x,ty,pos,after,none⟩:: r) s:=OL.pure (hx ▸ Pure.assign x) h
theorem asF {x:Operand}{f:Nat}{y:List V}(hx:s.ev x=.fn f y)(h:OL P m ops K r (s.put dst (.fn f y))):OL P m ops K (⟨dst,.assign x,ty,pos,after,none⟩:: r) s:=OL.pure (hx ▸ Pure.assign x) h
theorem Gf {x:Operand}{id b o:Nat}(hx:s.ev x=.ptr id b o)(h:OL P m ops K r (s.put dst (.ptr id b o))):OL P m ops K (⟨dst,.nilCheck x,ty,pos,after,none⟩:: r) s:=OL.pure (.nilPtr hx) h
theorem aW {x:Operand}{t f fo id b o o2:Nat}(hT:dG P t f fo)(hx:s.ev x=.ptr id b o)(ho:o+fo=o2)(h:OL P m ops K r (s.put dst (.ptr id b o2))):OL P m ops K (⟨dst,.fieldAddr t x f,ty,pos,after,none⟩:: r) s:=by subst ho;exact OL.pure (.QD hx hT) h
theorem Vp {x:Operand}{t f fo:Nat}{y z:List D}(hT:dG P t f fo)(hx:s.ev x=.ref y)(hz:y.drop fo=z)(h:OL P m ops K r (s.put dst (.ref z))):OL P m ops K (⟨dst,.fieldAddr t x f,ty,pos,after,none⟩:: r) s:=by subst hz;exact OL.pure (.QE hx hT) h
theorem faE {x:Operand}{t f fo id b z i j j2:Nat}(hT:dG P t f fo)(hx:s.ev x=.pW id b z i j)(ho:j+fo=j2)(h:OL P m ops K r (s.put dst (.pW id b z i j2))):OL P m ops K (⟨dst,.fieldAddr t x f,ty,pos,after,none⟩:: r) s:=by subst ho;exact OL.pure (.av8 hx hT) h
theorem aO {x:Operand}{t n id b o bt:Nat}{cells vs:List V}(hT:xK P t n)(hx:s.ev x=.ptr id b o)(hM:s.M id=some (.box b bt cells))(hv:(cells.drop o).take n=vs)(hn:o+n<=cells.length)(h:OL P m ops K r (s.put dst (.ag vs))):OL P m ops K (⟨dst,.load t x,ty,pos,after,none⟩:: r) s:=by subst hv;exact OL.load (.YR hx hM hT hn) h
theorem aG {x:Operand}{t id b o bt:Nat}{cells:List V}{v:V}(hT:jr P t)(hx:s.ev x=.ptr id b o)(hM:s.M id=some (.box b bt cells))(hv:cells[o]? = some v)(h:OL P m ops K r (s.put dst v)):OL P m ops K (⟨dst,.load t x,ty,pos,after,none⟩:: r) s:=OL.load (.YS hx hM hT hv) h
theorem jH {x:Operand}{t n:Nat}{y:List D}{vs:List V}(hT:xK P t n)(hx:s.ev x=.ref y)(hv:(y.take n).map .d=vs)(hn:n<=y.length)(h:OL P m ops K r (s.put dst (.ag vs))):OL P m ops K (⟨dst,.load t x,ty,pos,after,none⟩:: r) s:=by subst hv;exact OL.pure (.GN hx hT hn) h
theorem iH {x:Operand}{t:Nat}{c:D}{y:List D}(hT:jr P t)(hx:s.ev x=.ref (c::y))(h:OL P m ops K r (s.put dst (.d c))):OL P m ops K (⟨dst,.load t x,ty,pos,after,none⟩:: r) s:=OL.pure (.GR hx hT) h
theorem FK {x:Operand}{t n id b z i j c e:Nat}{es:List D}{el:D}{vs:List V}(hT:xK P t n)(hm:SE m=true)(hx:s.ev x=.pW id b z i j)(hM:s.M id=some (.row b c e z es))(hel:es[i]? = some el)(hv:((el.cells.drop j).take n).map .d=vs)(hn:j+n<=el.cells.length)(h:OL P m ops K r (s.put dst (.ag vs))):OL P m ops K (⟨dst,.load t x,ty,pos,after,none⟩:: r) s:=by subst hv;exact OL.load (.rowA hm hx hM hel hT hn) h
theorem aN5 {x:Operand}{t id b z i j c e:Nat}{es:List D}{el d:D}(hT:jr P t)(hm:SE m=true)(hx:s.ev x=.pW id b z i j)(hM:s.M id=some (.row b c e z es))(hel:es[i]? = some el)(hd:el.cells[j]? = some d)(h:OL P m ops K r (s.put dst (.d d))):OL P m ops K (⟨dst,.load t x,ty,pos,after,none⟩:: r) s:=OL.load (.J3 hm hx hM hel hT hd) h
theorem ixD {x y:Operand}{t e sz eF:Nat}{es:List D}{k:IntKind}{n:Int}{el:D}{cs:List D}(hT:bD P t e sz eF)(hx:s.ev x=.d (.sl es))(hy:s.ev y=.d (.sc (.int k n)))(h0:0<=n)(hel:es[n.toNat]? = some el)(hc:el.cells=cs)(hsz:cs.length=sz)(h:OL P m ops K r (s.put dst (.ref cs))):OL P m ops K (⟨dst,.indexAddr t x y,ty,pos,after,none⟩:: r) s:=by subst hc;exact OL.pure (.ixD hx hy hT h0 hel hsz) h
theorem Vu {x y:Operand}{t e sz eF id b l c i:Nat}{k:IntKind}{n:Int}(hT:bD P t e sz eF)(hx:s.ev x=.bF id b l c)(hy:s.ev y=.d (.sc (.int k n)))(h0:0<=n)(hl:n<l)(hi:n.toNat=i)(h:OL P m ops K r (s.put dst (.pW id b sz i 0))):OL P m ops K (⟨dst,.indexAddr t x y,ty,pos,after,none⟩:: r) s:=by subst hi;exact OL.pure (.Vu hx hy hT h0 hl) h
theorem iM {x y:Operand}{t e sz eF id b l c i:Nat}{k:IntKind}(hT:bD P t e sz eF)(hx:s.ev x=.bF id b l c)(hy:s.ev y=.d (.sc (.int k (i:Int))))(hl:i<l)(h:OL P m ops K r (s.put dst (.pW id b sz i 0))):OL P m ops K (⟨dst,.indexAddr t x y,ty,pos,after,none⟩:: r) s:=OL.pure (by simpa using Pure.Vu (P:=P) (ev:=s.ev) (n:=(i:Int)) hx hy hT (Int.natCast_nonneg i) (by omega)) h
theorem Ov {t e sz eF:Nat}{x:Operand}{es:List D}{ats:Array TypeId}{n:Nat}(hT:bD P t e sz eF)(ha:ats = #[t])(hx:s.ev x=.d (.sl es))(hn:es.length=n)(h:OL P m ops K r (s.put dst (.d (.sc (.int .i64 n))))):OL P m ops K (⟨dst,.call { callee:=.builtin .len,args:=#[x],argTypes:=ats },ty,pos,after,none⟩:: r) s:=by subst hn;exact OL.pure (.lenD ha hx hT) h
theorem fJ {α:Type}{t e sz eF:Nat}{x:Operand}{l:List α}{f:α->D}{ats:Array TypeId}(hT:bD P t e sz eF)(ha:ats = #[t])(hx:s.ev x=.d (.sl (l.map f)))(h:OL P m ops K r (s.put dst (.d (.sc (.int .i64 l.length))))):OL P m ops K (⟨dst,.call { callee:=.builtin .len,args:=#[x],argTypes:=ats },ty,pos,after,none⟩:: r) s:=Ov hT ha hx (dJ ..) h
theorem lnM {t e sz eF:Nat}{x:Operand}{ats:Array TypeId}(hT:bD P t e sz eF)(ha:ats = #[t])(hx:s.ev x=.mt)(h:OL P m ops K r (s.put dst (.d (.sc (.int .i64 0))))):OL P m ops K (⟨dst,.call { callee:=.builtin .len,args:=#[x],argTypes:=ats },ty,pos,after,none⟩:: r) s:=OL.pure (.aw4 ha hx hT) h
theorem G5 {t e sz eF id b n c:Nat}{x:Operand}{ats:Array TypeId}(hT:bD P t e sz eF)(ha:ats = #[t])(hx:s.ev x=.bF id b n c)(h:OL P m ops K r (s.put dst (.d (.sc (.int .i64 n))))):OL P m ops K (⟨dst,.call { callee:=.builtin .len,args:=#[x],argTypes:=ats },ty,pos,after,none⟩:: r) s:=OL.pure (.aw5 ha hx hT) h
theorem bo {o:BinOp}{t yt:Nat}{x y:Operand}{a b c:Value}(hx:s.ev x=.d (.sc a))(hy:s.ev y=.d (.sc b))(hr:bin o a b=some c)(h:OL P m ops K r (s.put dst (.d (.sc c)))):OL P m ops K (⟨dst,.binOp o t x y yt,ty,pos,after,none⟩:: r) s:=OL.pure (.bin hx hy hr) h
theorem aI {t yt:Nat}{x y:Operand}{a b:Int}(hx:s.ev x=.d (.sc (.int .i64 a)))(hy:s.ev y=.d (.sc (.int .i64 b)))(hw:-9223372036854775808<=a+b/\a+b<=9223372036854775807)(h:OL P m ops K r (s.put dst (.d (.sc (.int .i64 (a+b)))))):OL P m ops K (⟨dst,.binOp .add t x y yt,ty,pos,after,none⟩:: r) s:=bo hx hy (by simp only[bin,if_true,wrap_i64 hw]) h
theorem gI {t yt:Nat}{x y:Operand}{a b:Int}(hx:s.ev x=.d (.sc (.int .i64 a)))(hy:s.ev y=.d (.sc (.int .i64 b)))(hw:-9223372036854775808<=a-b/\a-b<=9223372036854775807)(h:OL P m ops K r (s.put dst (.d (.sc (.int .i64 (a-b)))))):OL P m ops K (⟨dst,.binOp .sub t x y yt,ty,pos,after,none⟩:: r) s:=bo hx hy (by simp only[bin,if_true,wrap_i64 hw]) h
theorem QK {t yt:Nat}{x y:Operand}{a b:Int}(hx:s.ev x=.d (.sc (.int .i64 a)))(hy:s.ev y=.d (.sc (.int .i64 b)))(hw:-9223372036854775808<=a*b/\a*b<=9223372036854775807)(h:OL P m ops K r (s.put dst (.d (.sc (.int .i64 (a*b)))))):OL P m ops K (⟨dst,.binOp .mul t x y yt,ty,pos,after,none⟩:: r) s:=bo hx hy (by simp only[bin,if_true,wrap_i64 hw]) h
theorem xg {t yt:Nat}{x y:Operand}{a b:Int}(hx:s.ev x=.d (.sc (.int .u64 a)))(hy:s.ev y=.d (.sc (.int .u64 b)))(hw:0<=a+b/\a+b<=18446744073709551615)(h:OL P m ops K r (s.put dst (.d (.sc (.int .u64 (a+b)))))):OL P m ops K (⟨dst,.binOp .add t x y yt,ty,pos,after,none⟩:: r) s:=bo hx hy (by simp only[bin,if_true,wrap_u64 hw]) h
theorem Kz {t yt:Nat}{x y:Operand}{a b:Int}(hx:s.ev x=.d (.sc (.int .u64 a)))(hy:s.ev y=.d (.sc (.int .u64 b)))(hw:0<=a-b/\a-b<=18446744073709551615)(h:OL P m ops K r (s.put dst (.d (.sc (.int .u64 (a-b)))))):OL P m ops K (⟨dst,.binOp .sub t x y yt,ty,pos,after,none⟩:: r) s:=bo hx hy (by simp only[bin,if_true,wrap_u64 hw]) h
theorem ay0 {t yt:Nat}{x y:Operand}{a b:Int}(hx:s.ev x=.d (.sc (.int .u64 a)))(hy:s.ev y=.d (.sc (.int .u64 b)))(hw:0<=a*b/\a*b<=18446744073709551615)(h:OL P m ops K r (s.put dst (.d (.sc (.int .u64 (a*b)))))):OL P m ops K (⟨dst,.binOp .mul t x y yt,ty,pos,after,none⟩:: r) s:=bo hx hy (by simp only[bin,if_true,wrap_u64 hw]) h
theorem aY {t yt:Nat}{x y:Operand}{k:IntKind}{a b:Int}{c:Bool}(hx:s.ev x=.d (.sc (.int k a)))(hy:s.ev y=.d (.sc (.int k b)))(hc:(decide (a<b))=c)(h:OL P m ops K r (s.put dst (.d (.sc (.bool c))))):OL P m ops K (⟨dst,.binOp .lss t x y yt,ty,pos,after,none⟩:: r) s:=bo hx hy (by subst hc;simp only[bin,if_true]) h
theorem xN {t yt:Nat}{x y:Operand}{k:IntKind}{a b:Int}{c:Bool}(hx:s.ev x=.d (.sc (.int k a)))(hy:s.ev y=.d (.sc (.int k b)))(hc:(decide (a<=b))=c)(h:OL P m ops K r (s.put dst (.d (.sc (.bool c))))):OL P m ops K (⟨dst,.binOp .leq t x y yt,ty,pos,after,none⟩:: r) s:=bo hx hy (by subst hc;simp only[bin,if_true]) h
theorem iO {t yt:Nat}{x y:Operand}{k:IntKind}{a b:Int}{c:Bool}(hx:s.ev x=.d (.sc (.int k a)))(hy:s.ev y=.d (.sc (.int k b)))(hc:(decide (b<a))=c)(h:OL P m ops K r (s.put dst (.d (.sc (.bool c))))):OL P m ops K (⟨dst,.binOp .gtr t x y yt,ty,pos,after,none⟩:: r) s:=bo hx hy (by subst hc;simp only[bin,if_true]) h
theorem qY {t yt:Nat}{x y:Operand}{k:IntKind}{a b:Int}{c:Bool}(hx:s.ev x=.d (.sc (.int k a)))(hy:s.ev y=.d (.sc (.int k b)))(hc:(decide (b<=a))=c)(h:OL P m ops K r (s.put dst (.d (.sc (.bool c))))):OL P m ops K (⟨dst,.binOp .geq t x y yt,ty,pos,after,none⟩:: r) s:=bo hx hy (by subst hc;simp only[bin,if_true]) h
theorem dR {t yt:Nat}{x y:Operand}{k:IntKind}{a b:Int}{c:Bool}(hx:s.ev x=.d (.sc (.int k a)))(hy:s.ev y=.d (.sc (.int k b)))(hc:(decide (a=b))=c)(h:OL P m ops K r (s.put dst (.d (.sc (.bool c))))):OL P m ops K (⟨dst,.binOp .eql t x y yt,ty,pos,after,none⟩:: r) s:=bo hx hy (by subst hc;simp only[bin,if_true];congr 2) h
theorem eG {t yt:Nat}{x y:Operand}{k:IntKind}{a b:Int}{c:Bool}(hx:s.ev x=.d (.sc (.int k a)))(hy:s.ev y=.d (.sc (.int k b)))(hc:(!decide (a=b))=c)(h:OL P m ops K r (s.put dst (.d (.sc (.bool c))))):OL P m ops K (⟨dst,.binOp .neq t x y yt,ty,pos,after,none⟩:: r) s:=bo hx hy (by subst hc;simp only[bin,if_true];congr 2) h
theorem eqb {t yt:Nat}{x y:Operand}{a b:Bool}(hT:KU P t)(hx:s.ev x=.d (.sc (.bool a)))(hy:s.ev y=.d (.sc (.bool b)))(h:OL P m ops K r (s.put dst (.d (.sc (.bool (a == b)))))):OL P m ops K (⟨dst,.binOp .eql t x y yt,ty,pos,after,none⟩:: r) s:=OL.pure (.eqb hx hy hT) h
theorem neb {t yt:Nat}{x y:Operand}{a b:Bool}(hT:KU P t)(hx:s.ev x=.d (.sc (.bool a)))(hy:s.ev y=.d (.sc (.bool b)))(h:OL P m ops K r (s.put dst (.d (.sc (.bool (!(a == b))))))):OL P m ops K (⟨dst,.binOp .neq t x y yt,ty,pos,after,none⟩:: r) s:=OL.pure (.neb hx hy hT) h
theorem nt {t:Nat}{x:Operand}{a:Bool}(hx:s.ev x=.d (.sc (.bool a)))(h:OL P m ops K r (s.put dst (.d (.sc (.bool (!a)))))):OL P m ops K (⟨dst,.unOp .not t x,ty,pos,after,none⟩:: r) s:=OL.pure (.not hx) h
theorem ng {t:Nat}{x:Operand}{k:IntKind}{a c:Int}(hx:s.ev x=.d (.sc (.int k a)))(hc:k.wrap (0-a)=c)(h:OL P m ops K r (s.put dst (.d (.sc (.int k c))))):OL P m ops K (⟨dst,.unOp .neg t x,ty,pos,after,none⟩:: r) s:=by subst hc;exact OL.pure (.neg hx) h
theorem cv {u t:Nat}{x:Operand}{k j:IntKind}{a c:Int}(hs:JY P u k)(ht:JY P t j)(hx:s.ev x=.d (.sc (.int k a)))(hc:j.wrap a=c)(h:OL P m ops K r (s.put dst (.d (.sc (.int j c))))):OL P m ops K (⟨dst,.convert u t x,ty,pos,after,none⟩:: r) s:=by subst hc;exact OL.pure (.conv hx hs ht) h
theorem oC {c x y:Operand}{v:V}(hc:s.ev c=.d (.sc (.bool true)))(hx:s.ev x=v)(h:OL P m ops K r (s.put dst v)):OL P m ops K (⟨dst,.pick c x y,ty,pos,after,none⟩:: r) s:=OL.pure (by
 have:=Pure.pick (P:=P) (ev:=s.ev) (x:=x) (y:=y) hc;simpa [hx] using this) h
theorem kL {c x y:Operand}{v:V}(hc:s.ev c=.d (.sc (.bool false)))(hy:s.ev y=v)(h:OL P m ops K r (s.put dst v)):OL P m ops K (⟨dst,.pick c x y,ty,pos,after,none⟩:: r) s:=OL.pure (by
 have:=Pure.pick (P:=P) (ev:=s.ev) (x:=x) (y:=y) hc;simpa [hy] using this) h
theorem ex {x:Operand}{i:Nat}{vs:List V}{v:V}(hx:s.ev x=.jS vs)(hv:vs[i]? = some v)(h:OL P m ops K r (s.put dst v)):OL P m ops K (⟨dst,.extract x i,ty,pos,after,none⟩:: r) s:=OL.pure (.ext hx hv) h
theorem mx {x y:Operand}{ats:Array TypeId}{a b c:Int}(hx:s.ev x=.d (.sc (.int .i64 a)))(hy:s.ev y=.d (.sc (.int .i64 b)))(hc:Max.max a b=c)(h:OL P m ops K r (s.put dst (.d (.sc (.int .i64 c))))):OL P m ops K (⟨dst,.call { callee:=.builtin .max,args:=#[x,y],argTypes:=ats },ty,pos,after,none⟩:: r) s:=by subst hc;exact OL.pure (.max hx hy) h
theorem mn {x y:Operand}{ats:Array TypeId}{k:IntKind}{a b c:Int}(hx:s.ev x=.d (.sc (.int k a)))(hy:s.ev y=.d (.sc (.int k b)))(hc:Min.min a b=c)(h:OL P m ops K r (s.put dst (.d (.sc (.int k c))))):OL P m ops K (⟨dst,.call { callee:=.builtin .min,args:=#[x,y],argTypes:=ats },ty,pos,after,none⟩:: r) s:=by subst hc;exact OL.pure (.min hx hy) h
theorem slD {x:Operand}{lo hi:Option Operand}{t e sz eF l h:Nat}{es fs:List D}(hT:bD P t e sz eF)(hx:s.ev x=.d (.sl es))(hl:Vo s.ev lo 0 l)(hh:Vo s.ev hi es.length h)(hlh:l<=h/\h<=es.length)(hs:∀ x,x ∈ es->x.cells.length=sz)(hf:(es.take h).drop l=fs)(k:OL P m ops K r (s.put dst (.d (.sl fs)))):OL P m ops K (⟨dst,.slice t x lo hi none,ty,pos,after,none⟩:: r) s:=by subst hf;exact OL.pure (.av9 hx hT hl hh hlh.1 hlh.2 hs) k
theorem bd {t:Nat}{parts:Array (Nat × Operand)}{zs cs:List V}{pl:List (Nat × Nat)}(hz:eU P t zs)(hp:kP P t pl)(hf:KX pl zs (parts.toList.map λp=>(p.1,s.ev p.2))=some cs)(h:OL P m ops K r (s.put dst (.ag cs))):OL P m ops K (⟨dst,.build t parts,ty,pos,after,none⟩:: r) s:=OL.pure (.build hz hp hf) h
theorem cl {f:Operand}{args:Array Operand}{ats:Array TypeId}{nR:Nat}{caps pR:List V}{res:V}(hs:aj P nR pR res)(hf:s.ev f=.fn nR caps)(ha:fH (args.toList.map s.ev++caps) pR)(h:OL P m ops K r (s.put dst res)):OL P m ops K (⟨dst,.call { callee:=.value f,args:=args,argTypes:=ats },ty,pos,after,none⟩:: r) s:=OL.pure (.call hf ha hs) h
theorem al {t d:Nat}{zs:List V}(hz:eU P t zs)(hM:s.M d=none)(h:∀ b,OL P m ops K r ⟨upd s.ρ d (.ptr d b 0),upd s.M d (some (.box b t zs))⟩):OL P m ops K (⟨some d,.alloc t,ty,pos,after,none⟩:: r) s:=OL.new (.alloc hz) hM (by simp[DN]) λb _=>h b
theorem iI {t d:Nat}{x:Operand}{vs:List V}(hx:s.ev x=.ag vs)(hM:s.M d=none)(h:∀ b,OL P 0 ops K r ⟨upd s.ρ d (.ptr d b 0),upd s.M d (some (.box b t vs))⟩):OL P 0 ops K (⟨some d,.box t x,ty,pos,after,none⟩:: r) s:=OL.new (.box hx rfl) hM (by simp[DN]) λb _=>h b
theorem bxD {t d:Nat}{x:Operand}{y:D}(hx:s.ev x=.d y)(hM:s.M d=none)(h:∀ b,OL P 0 ops K r ⟨upd s.ρ d (.ptr d b 0),upd s.M d (some (.box b t [.d y]))⟩):OL P 0 ops K (⟨some d,.box t x,ty,pos,after,none⟩:: r) s:=OL.new (.box hx rfl) hM (by simp[DN]) λb _=>h b
theorem eH {x y:Operand}{t n id b o bt:Nat}{cells cells2:List V}{v:V}(hT:(P.info? t).map (·.size)=some n)(hx:s.ev x=.ptr id b o)(hy:s.ev y=v)(hp:v.plain=true)(hM:s.M id=some (.box b bt cells))(hl:v.cells.length=n)(hn:o+n<=cells.length)(hc:cells.take o++v.cells++cells.drop (o+n)=cells2)(h:OL P m ops K r ⟨s.ρ,upd s.M id (some (.box b bt cells2))⟩):OL P m ops K (⟨none,.store t x y,ty,pos,after,none⟩:: r) s:=by subst hc;exact OL.store (.box hx hy hp hM hT hl hn) h
theorem GI {x y:Operand}{t id b z i c e:Nat}{es es2:List D}{d:D}(hT:(P.info? t).map (·.size)=some z)(hx:s.ev x=.pW id b z i 0)(hy:VD (s.ev y) d)(hM:s.M id=some (.row b c e z es))(hl:d.cells.length=z)(hi:i<es.length)(hc:es.set i d=es2)(h:OL P m ops K r ⟨s.ρ,upd s.M id (some (.row b c e z es2))⟩):OL P m ops K (⟨none,.store t x y,ty,pos,after,none⟩:: r) s:=by subst hc;exact OL.store (.row hx hy hM hT hl hi) h
theorem mk {t e sz eF n d:Nat}{x y:Operand}{k k2:IntKind}{z:D}{zs:List V}(hT:bD P t e sz eF)(hz:eU P e zs)(hc:VCs zs z.cells)(hx:s.ev x=.d (.sc (.int k (n:Int))))(hy:s.ev y=.d (.sc (.int k2 (n:Int))))(hb:eF*n<=281474976710656)(hm:n<=9223372036854775807)(hM:s.M d=none)(h:∀ b,OL P 0 ops K r ⟨upd s.ρ d (.bF d b n n),upd s.M d (some (.row b n e sz (List.replicate n z)))⟩):OL P 0 ops K (⟨some d,.makeSlice t x y,ty,pos,after,none⟩:: r) s:=OL.new (.make hx hy hT hz hc (Nat.le_refl _) hb hm) hM (by simp[DN]) λb _=>h b
theorem mk3 {t e sz eF n cp d:Nat}{x y:Operand}{k k2:IntKind}{z:D}{zs:List V}(hT:bD P t e sz eF)(hz:eU P e zs)(hc:VCs zs z.cells)(hx:s.ev x=.d (.sc (.int k (n:Int))))(hy:s.ev y=.d (.sc (.int k2 (cp:Int))))(hn:n<=cp)(hb:eF*cp<=281474976710656)(hm:cp<=9223372036854775807)(hM:s.M d=none)(h:∀ b,OL P 0 ops K r ⟨upd s.ρ d (.bF d b n cp),upd s.M d (some (.row b cp e sz (List.replicate n z)))⟩):OL P 0 ops K (⟨some d,.makeSlice t x y,ty,pos,after,none⟩:: r) s:=OL.new (.make hx hy hT hz hc hn hb hm) hM (by simp[DN]) λb _=>h b
theorem apM {t e sz eF d:Nat}{u x:Operand}{xs:List D}{ats:Array TypeId}(hT:bD P t e sz eF)(ha:ats = #[t,t])(hs:s.ev u=.mt)(hx:VC (s.ev x) (.sl xs))(hsz:∀ y,y ∈ xs->y.cells.length=sz)(hb:xs.length*eF<=140737488355328)(hm:xs.length<=4611686018427387904)(hM:s.M d=none)(h:∀ b c,OL P m ops K r ⟨upd s.ρ d (.bF d b xs.length c),upd s.M d (some (.row b c e sz xs))⟩):OL P m ops K (⟨some d,.call { callee:=.builtin .append,args:=#[u,x],argTypes:=ats },ty,pos,after,none⟩:: r) s:=OL.new (.app (.same hT ha) hs hx hT hsz hb hm) hM (by simp[DN]) λb c=>h b c
theorem YX {t e sz eF:Nat}{u x:Operand}{xs:List D}{ats:Array TypeId}(hT:bD P t e sz eF)(ha:ats = #[t,t])(hs:s.ev u=.mt)(hx:VC (s.ev x) (.sl xs))(hsz:∀ y,y ∈ xs->y.cells.length=sz)(hb:xs.length*eF<=140737488355328)(hm:xs.length<=4611686018427387904)(h:OL P m ops K r (s.put dst (.d (.sl xs)))):OL P m ops K (⟨dst,.call { callee:=.builtin .append,args:=#[u,x],argTypes:=ats },ty,pos,after,none⟩:: r) s:=OL.Tf (.aw9 (.same hT ha) hs hx hT hsz hb hm) h
theorem Ce {t e sz eF b n c d id:Nat}{u x:Operand}{es xs ys:List D}{ats:Array TypeId}(hT:bD P t e sz eF)(ha:ats = #[t,t])(hs:s.ev u=.bF id b n c)(hM:s.M id=some (.row b c e sz es))(hn:n=es.length)(hx:VC (s.ev x) (.sl xs))(hsz:∀ y,y ∈ xs->y.cells.length=sz)(hb:(n+xs.length)*eF<=140737488355328)(hm:n+xs.length<=4611686018427387904)(hd:s.M d=none \/ d=id)(hy:es++xs=ys){n2:Nat}(hn2:n+xs.length=n2)(h:∀ b2 c2,OL P m ops K r ⟨upd s.ρ d (.bF d b2 n2 c2),upd (upd s.M id (some jA)) d (some (.row b2 c2 e sz ys))⟩):OL P m ops K (⟨some d,.call { callee:=.builtin .append,args:=#[u,x],argTypes:=ats },ty,pos,after,none⟩:: r) s:=by subst hy;subst hn2;exact OL.app (.own (.same hT ha) hs hM hn hx hT hsz hb hm) hd λb c=>h b c
theorem ad7 {t e sz eF b n c d id:Nat}{u x:Operand}{es xs ys:List D}{ats:Array TypeId}(hT:bD P t e sz eF)(ha:ats = #[t,t])(hs:s.ev u=.bF id b n c)(hM:s.M id=some (.row b c e sz es))(hn:n=es.length)(hx:VC (s.ev x) (.sl xs))(hsz:∀ y,y ∈ xs->y.cells.length=sz)(hb:(n+xs.length)*eF<=140737488355328)(hm:n+xs.length<=4611686018427387904)(hd:s.M d=none \/ d=id)(hy:es++xs=ys)(h:OL P m ops K r ⟨upd s.ρ d (.d (.sl ys)),upd (upd s.M id (some jA)) d none⟩):OL P m ops K (⟨some d,.call { callee:=.builtin .append,args:=#[u,x],argTypes:=ats },ty,pos,after,none⟩:: r) s:=by subst hy;exact OL.app (.Vx (.same hT ha) hs hM hn hx hT hsz hb hm) hd λ_ _=>h
theorem lt0 {t e sz eF:Nat}(hT:bD P t e sz eF)(h:OL P m ops K r (s.put dst .mt)):OL P m ops K (⟨dst,.buildSlice t 0 #[],ty,pos,after,none⟩:: r) s:=OL.Tf (.ax0 hT) h
theorem zX {t e sz eF:Nat}{x:Operand}{y:D}(hT:bD P t e sz eF)(hx:VD (s.ev x) y)(hs:y.cells.length=sz)(QG:sz<=16777216)(h:OL P m ops K r (s.put dst (.d (.sl [y])))):OL P m ops K (⟨dst,.buildSlice t 1 #[(0,x)],ty,pos,after,none⟩:: r) s:=OL.Tf (.YT (xs:=[y]) hT rfl rfl (by omega) (by omega) (λi p z hp hz=>by cases i <;> simp at hp hz;subst hp hz;exact hx) (λz hz=>by simp at hz;subst hz;exact hs)) h
theorem lt2 {t e sz eF:Nat}{x x2:Operand}{y y2:D}(hT:bD P t e sz eF)(hx:VD (s.ev x) y)(hx2:VD (s.ev x2) y2)(hs:y.cells.length=sz/\y2.cells.length=sz)(QG:sz<=8388608)(h:OL P m ops K r (s.put dst (.d (.sl [y,y2])))):OL P m ops K (⟨dst,.buildSlice t 2 #[(0,x),(1,x2)],ty,pos,after,none⟩:: r) s:=OL.Tf (.YT (xs:=[y,y2]) hT rfl rfl (by omega) (by omega) (λi p z hp hz=>by
 match i,hp,hz with
 | 0,hp,hz=>simp at hp hz;subst hp hz;exact hx
 | 1,hp,hz=>simp at hp hz;subst hp hz;exact hx2
 | i+2,hp,hz=>simp at hp) (λz hz=>by simp at hz;rcases hz with rfl|rfl;exact hs.1;exact hs.2)) h
end
theorem AW.own {P:Program}{E:Env}{c:Code}{Q:Exit->S->Prop}{s:S}(t id e sz:Nat)(ht:s.ρ t=.mt)(hM:s.M id=none)(h:AW P E c Q ⟨upd s.ρ t (.bF id 0 0 0),upd s.M id (some (.row 0 0 e sz []))⟩):AW P E c Q s:=λF a w hr=>by
 refine h F a w ?_;have hs:=Lc hr.gU id e sz;refine⟨hs,hr.grow,hr.f0,hr.yc,λj blk k hm ho=>?_,hr.size,hr.defers,λu=>?_⟩
 .simp only[upd] at hm
  split at hm
  .cases hm;obtain⟨h,_⟩:=ho;omega
  .exact hr.kM j blk k hm ho
 .have hu:=hr.slots u;simp only[upd]
  split
  .rename_i e1;subst e1;rw[ht] at hu;generalize a.tmps.getD u undef=v at hu;cases hu
   exact .bF (λh=>by omega) (Nat.le_refl _)
  .exact hu
def V.YZ (id b c:Nat)(es:List D):V->V
 | .bF i b2 n c2=>if i=id/\b2=b/\c2=c/\n<=es.length then .d (.sl (es.take n)) else .bF i b2 n c2
 | v=>v
def iE.YZ (id b c:Nat)(es:List D):iE->iE
 | .box x t cells=>.box x t (cells.map (V.YZ id b c es))
 | k=>k
theorem V.KA {F F':Hp}{id b c:Nat}{es:List D}(hle:Hp.le F F')(h:∀ (u:Value) (n:Nat),dm F u (.bF id b n c)->n<=es.length->Rep F' u (.sl (es.take n))){u:Value}{v:V}(hv:dm F u v):dm F' u (v.YZ id b c es):=by
 cases v with
 | bF i b2 n c2 =>
  simp only[V.YZ]
  split
  .rename_i hc;obtain⟨rfl,rfl,rfl,hn⟩:=hc;have hu:=h u n hv hn;cases hv
   exact .d hu rfl
  .exact hv.mono hle
 | _=>exact hv.mono hle
theorem AW.freeze {P:Program}{E:Env}{k:Code}{Q:Exit->S->Prop}{s:S}(id:Nat){b c e sz:Nat}{es:List D}(hM:s.M id=some (.row b c e sz es))
  (h:AW P E k Q ⟨λt=>(s.ρ t).YZ id b c es,λj=>if j=id then none else (s.M j).map (iE.YZ id b c es)⟩):AW P E k Q s:=λF a w hr=>by
 obtain⟨F',h1,h2,h3,h4⟩:=wK hr.gU hM;refine h F' a w ?_;have part:∀ j blk,(λj=>if j=id then none else (s.M j).map (iE.YZ id b c es)) j=some blk->∃ bl,(upd s.M id none) j=some bl/\s.M j=some bl/\blk=bl.YZ id b c es:=λj blk hj=>by
  simp only at hj
  split at hj
  .cases hj
  .rename_i hne;cases hq:s.M j with
   | none=>rw[hq] at hj;cases hj
   | some bl=>rw[hq] at hj;cases hj;exact⟨bl,by rw[upd_ne _ _ hne];exact hq,rfl,rfl⟩
 have ow:∀ (bl:iE) (k:Nat),(bl.YZ id b c es).owns k->bl.owns k:=λbl k hk=>by cases bl <;> exact hk
 refine⟨⟨h2.rM,λj blk hj=>?_,λj blk k hj ho=>?_,λi j bi bj k hi hj hoi hoj=>?_⟩,hr.grow,hr.f0.trans h1,λk p q=>?_,λj blk k hj ho=>?_,hr.size,hr.defers,λt=>V.KA h1 h4 (hr.slots t)⟩
 .obtain⟨bl,hb,hb0,rfl⟩:=part j blk hj;have ok:=h2.own j bl hb;cases bl with
  | row=>exact ok
  | pool=>exact ok
  | YK=>exact ok
  | box x t cells =>
   obtain⟨cs,g1,g2,g3,g4⟩:=hr.gU.own j _ hb0;refine⟨cs,g1,by simpa using g2,g3,λi v u hv hu=>?_⟩
   rw[List.getElem?_map] at hv;cases hq:cells[i]? with
   | none=>rw[hq] at hv;cases hv
   | some v0=>rw[hq] at hv;cases hv;exact V.KA h1 h4 (g4 i v0 u hq hu)
 .obtain⟨bl,hb,_,rfl⟩:=part j blk hj;exact h2.apart j bl k hb (ow bl k ho)
 .obtain⟨b1,hb1,_,rfl⟩:=part i bi hi;obtain⟨b2,hb2,_,rfl⟩:=part j bj hj;exact h2.inj i j b1 b2 k hb1 hb2 (ow _ _ hoi) (ow _ _ hoj)
 .cases hf:F k with
  | none =>
   obtain⟨i,bl,hi,ho⟩:=h3 k hf q;exact hr.kM i bl k hi ho
  | some o=>exact hr.yc k p (by rw[hf];simp)
 .obtain⟨bl,_,hb,rfl⟩:=part j blk hj;exact hr.kM j bl k hb (ow _ _ ho)
section
variable {P:Program}{E:Env}{c:Code}{Q:Exit->S->Prop}{s:S}
structure Head {α:Type} (K:α->List (Nat × V)) (W:α->List (Nat × iE)) (φ:α->Prop) (x:α) (s:S):Prop where
 φ:φ x
 knows:Knows s (K x)
 owns:dw s (W x)
theorem AW.while {α:Type}(K:α->List (Nat × V))(W:α->List (Nat × iE))(φ:α->Prop)(μ:α->Nat)(x0:α)(h0:Head K W φ x0 s)
  (round:∀ x,φ x->AW P E c (Lh (λs'=>∃ x',μ x' < μ x/\Head K W φ x' s') Q) (st (K x) (W x))):AW P E (.loop c) Q s :=
 AW.loop (λk s=>∃ x,μ x=k/\Head K W φ x s) (μ x0) ⟨x0,rfl,h0⟩ λn s ⟨x,hx,hh⟩=>by
  subst hx;refine (AW.to (K x) (W x) hh.knows hh.owns ((round x hh.φ).mono λe s' hq=>?_));cases e with
  | normal=>obtain⟨x',h1,h2⟩:=hq;exact⟨μ x',h1,x',rfl,h2⟩
  | _=>exact hq
theorem AW.mid {x y:Code}{α:Type}(K:α->List (Nat × V))(W:α->List (Nat × iE))(φ:α->Prop)
  (hx:AW P E x (Lh (λs'=>∃ a,Head K W φ a s') Q) s) (hy:∀ a,φ a->AW P E y Q (st (K a) (W a))):AW P E (.seq x y) Q s :=
 AW.seq (hx.mono λe s' hq=>by
  cases e with
  | normal=>obtain⟨a,h⟩:=hq;exact AW.to (K a) (W a) h.knows h.owns (hy a h.φ)
  | _=>exact hq)
theorem bG.bool {a b:Bool}(h:a=b):bG (.d (.sc (.bool a))) (.d (.sc (.bool b))):=h ▸ bG.refl _
theorem bG.int {k:IntKind}{a b:Int}(h:a=b):bG (.d (.sc (.int k a))) (.d (.sc (.int k b))):=h ▸ bG.refl _
end
abbrev dI (n:Int):D:=.sc (.int .i64 n)
abbrev dU (n:Nat):D:=.sc (.int .u64 (n:Int))
abbrev zY (n:Nat):D:=.sc (.int .u32 (n:Int))
abbrev dB (b:Bool):D:=.sc (.bool b)
abbrev aH (L:List Nat):D:=.sl (L.map zY)
abbrev ints (L:List Int):D:=.sl (L.map dI)
abbrev bools (L:List Bool):D:=.sl (L.map dB)
theorem Knows.nil {s:S}:Knows s []:=trivial
theorem Knows.cons {s:S}{k:Nat}{v:V}{r:List (Nat × V)}(h:bG (s.ρ k) v)(t:Knows s r):Knows s ((k,v)::r):=⟨h,t⟩
theorem dw.nil {s:S}:dw s []:=trivial
theorem dw.cons {s:S}{k:Nat}{b:iE}{r:List (Nat × iE)}(h:s.M k=some b)(t:dw s r):dw s ((k,b)::r):=⟨h,t⟩
section
variable {P:Program}{E:Env}{Q:Exit->S->Prop}{s:S}
theorem AW.again {α:Type}{K:α->List (Nat × V)}{W:α->List (Nat × iE)}{φ:α->Prop}{μ:α->Nat}{x:α}(x':α)(hd:μ x' < μ x)(hh:Head K W φ x' s) :
  ∃ x',μ x' < μ x/\Head K W φ x' s:=⟨x',hd,hh⟩
theorem AW.reach {α:Type}{K:α->List (Nat × V)}{W:α->List (Nat × iE)}{φ:α->Prop}(x':α)(hh:Head K W φ x' s):∃ a,Head K W φ a s:=⟨x',hh⟩
theorem aP.r {fn:Func}{res:V}(h:∃ xs,Xw P s fn.results.toList xs/\SS s.M jO xs res):aP P fn jO res .ret s:=⟨h,λ_ _ hk=>by cases hk⟩
theorem aP.n {fn:Func}{res:V}(h:∃ xs,Xw P s fn.results.toList xs/\SS s.M jO xs res):aP P fn jO res .normal s:=⟨h,λ_ _ hk=>by cases hk⟩
end
theorem RO.row {M:Mem}{id b c e sz:Nat}{es:List D}{n:Nat}{ys:List D}(hM:M id=some (.row b c e sz es))(hn:n=es.length)(hy:es=ys):RO M jO (.bF id b n c) (.d (.sl ys)):=by
 subst hy;have h:=RO.bF (M:=M) (Mk:=jO) (n:=n) hM rfl (Nat.le_of_eq hn)
 rwa [hn,List.take_length,<- hn] at h
section
variable {P:Program}{m:Nat}{ops:Array Oper}{K:S->Prop}{r:List Oper}{s:S}{dst:Option Nat}{ty:TypeId}{pos:String}{after:Array Edge}
theorem ixL {α:Type}{x y:Operand}{t e sz eF:Nat}{l:List α}{f:α->D}{k:IntKind}{n:Int}{cs:List D}(hT:bD P t e sz eF)(d0:α)(hx:s.ev x=.d (.sl (l.map f)))(hy:s.ev y=.d (.sc (.int k n)))(h0:0<=n)(hn:n<l.length)
  (hc:(f (l.getD n.toNat d0)).cells=cs) (hsz:cs.length=sz) (h:OL P m ops K r (s.put dst (.ref cs))):OL P m ops K (⟨dst,.indexAddr t x y,ty,pos,after,none⟩:: r) s:=by
 have hlt:n.toNat<l.length:=by omega
 refine ixD hT hx hy h0 (el:=f (l.getD n.toNat d0)) ?_ hc hsz h;rw[List.getElem?_map,ig,lu hlt];rfl
theorem Jy {t yt:Nat}{x y:Operand}{a b:Int}{j:IntKind}(hx:s.ev x=.d (.sc (.int .u64 a)))(hy:s.ev y=.d (.sc (.int j b)))(hb:b=32)(h:OL P m ops K r (s.put dst (.d (.sc (.int .u64 (a / 4294967296)))))) :
  OL P m ops K (⟨dst,.binOp .shr t x y yt,ty,pos,after,none⟩:: r) s:=by
 subst hb;refine bo hx hy (c:=.int .u64 (a / 4294967296)) ?_ h;show (if (0:Int)<=32 then some (Value.int .u64 (a.fdiv (2 ^ min (Int.toNat 32) IntKind.u64.bits))) else none)=_
 rw[if_pos (by decide),Int.fdiv_eq_ediv_of_nonneg _ (by decide)]
 rfl
theorem aJ4 {t yt:Nat}{x y:Operand}{a b:Int}{j:IntKind}(hx:s.ev x=.d (.sc (.int .u64 a)))(hy:s.ev y=.d (.sc (.int j b)))(hb:b=63)(h:OL P m ops K r (s.put dst (.d (.sc (.int .u64 (a / 9223372036854775808)))))) :
  OL P m ops K (⟨dst,.binOp .shr t x y yt,ty,pos,after,none⟩:: r) s:=by
 subst hb;refine bo hx hy (c:=.int .u64 (a / 9223372036854775808)) ?_ h;show (if (0:Int)<=63 then some (Value.int .u64 (a.fdiv (2 ^ min (Int.toNat 63) IntKind.u64.bits))) else none)=_
 rw[if_pos (by decide),Int.fdiv_eq_ediv_of_nonneg _ (by decide)]
 rfl
theorem Y0 {t yt:Nat}{x y:Operand}{k:IntKind}{a b:Int}{j:IntKind}{c:Int}(hx:s.ev x=.d (.sc (.int k a)))(hy:s.ev y=.d (.sc (.int j b)))(hb:0<=b/\b.toNat<=k.bits)(hc:a / 2 ^ b.toNat=c)
  (h:OL P m ops K r (s.put dst (.d (.sc (.int k c))))):OL P m ops K (⟨dst,.binOp .shr t x y yt,ty,pos,after,none⟩:: r) s:=by
 subst hc;refine bo hx hy (c:=.int k (a / 2 ^ b.toNat)) ?_ h;show (if (0:Int)<=b then some (Value.int k (a.fdiv (2 ^ min b.toNat k.bits))) else none)=_
 rw[if_pos hb.1,Nat.min_eq_left hb.2,Int.fdiv_eq_ediv_of_nonneg _ (Int.le_of_lt (Int.pow_pos (by decide)))]
theorem ad9 {t yt:Nat}{x y:Operand}{a b:Int}{j:IntKind}(hx:s.ev x=.d (.sc (.int .u64 a)))(hy:s.ev y=.d (.sc (.int j b)))(hb:b=32)(ha:0<=a/\a<=4294967295)(h:OL P m ops K r (s.put dst (.d (.sc (.int .u64 (a*4294967296)))))) :
  OL P m ops K (⟨dst,.binOp .shl t x y yt,ty,pos,after,none⟩:: r) s:=by
 subst hb;refine bo hx hy (c:=.int .u64 (a*4294967296)) ?_ h;show (if (0:Int)<=32 then some (Value.int .u64 (IntKind.u64.wrap (a*2 ^ min (Int.toNat 32) IntKind.u64.bits))) else none)=_
 rw[if_pos (by decide)]
 show some (Value.int .u64 (IntKind.u64.wrap (a*4294967296)))=_
 rw[wrap_u64 (by omega)]
theorem aZ2 {t yt:Nat}{x y:Operand}{k:IntKind}{a b:Int}{j:IntKind}{c:Int}(hx:s.ev x=.d (.sc (.int k a)))(hy:s.ev y=.d (.sc (.int j b)))(hb:0<=b/\b.toNat<=k.bits)(hc:k.wrap (a*2 ^ b.toNat)=c)
  (h:OL P m ops K r (s.put dst (.d (.sc (.int k c))))):OL P m ops K (⟨dst,.binOp .shl t x y yt,ty,pos,after,none⟩:: r) s:=by
 subst hc;refine bo hx hy (c:=.int k (k.wrap (a*2 ^ b.toNat))) ?_ h;show (if (0:Int)<=b then some (Value.int k (k.wrap (a*2 ^ min b.toNat k.bits))) else none)=_
 rw[if_pos hb.1,Nat.min_eq_left hb.2]
theorem ae0 {α:Type}{x y:Operand}{t e sz eF:Nat}{l:List α}{f:α->D}{k:IntKind}{h:Int}(hT:bD P t e sz eF)(hx:s.ev x=.d (.sl (l.map f)))(hy:s.ev y=.d (.sc (.int k h)))(hf:∀ a,(f a).cells.length=sz)(h0:0<=h/\h<=l.length)
  {l2:List α} (hl:l.take h.toNat=l2) (kk:OL P m ops K r (s.put dst (.d (.sl (l2.map f))))):OL P m ops K (⟨dst,.slice t x none (some y) none,ty,pos,after,none⟩:: r) s:=by
 subst hl;obtain⟨n,rfl⟩:∃ n:Nat,h=n:=⟨h.toNat,by omega⟩
 refine slD hT hx (l:=0) (h:=n) rfl ⟨k,hy⟩ ⟨Nat.zero_le _,by simpa using h0.2⟩ (λz hz=>?_) ?_ kk
 .obtain⟨a,_,rfl⟩:=mM hz;exact hf a
 .simp[List.map_take]
theorem ae1 {α:Type}{x y:Operand}{t e sz eF:Nat}{l:List α}{f:α->D}{k:IntKind}{h:Int}(hT:bD P t e sz eF)(hx:s.ev x=.d (.sl (l.map f)))(hy:s.ev y=.d (.sc (.int k h)))(hf:∀ a,(f a).cells.length=sz)(h0:0<=h/\h<=l.length)
  {l2:List α} (hl:l.drop h.toNat=l2) (kk:OL P m ops K r (s.put dst (.d (.sl (l2.map f))))):OL P m ops K (⟨dst,.slice t x (some y) none none,ty,pos,after,none⟩:: r) s:=by
 subst hl;obtain⟨n,rfl⟩:∃ n:Nat,h=n:=⟨h.toNat,by omega⟩
 refine slD hT hx (l:=n) (h:=(l.map f).length) ⟨k,hy⟩ rfl ⟨by simpa using h0.2,Nat.le_refl _⟩ (λz hz=>?_) ?_ kk
 .obtain⟨a,_,rfl⟩:=mM hz;exact hf a
 .rw[List.take_length,List.map_drop];simp
theorem Ls {t yt:Nat}{x y:Operand}{a b:Int}(hx:s.ev x=.d (.sc (.int .u64 a)))(hy:s.ev y=.d (.sc (.int .u64 b))){c:Int}(hc:(a-b) % 18446744073709551616=c)(h:OL P m ops K r (s.put dst (.d (.sc (.int .u64 c))))) :
  OL P m ops K (⟨dst,.binOp .sub t x y yt,ty,pos,after,none⟩:: r) s:=by
 subst hc;exact bo hx hy (by simp only[bin,if_true,CG]) h
theorem orB {t yt:Nat}{x y:Operand}{a b:Nat}(n q:Nat)(hx:s.ev x=.d (.sc (.int .u64 (b:Int))))(hy:s.ev y=.d (.sc (.int .u64 (a:Int))))(hq:a=q*2 ^ n)(hb:b<2 ^ n)(hs:a+b<18446744073709551616)
  (h:OL P m ops K r (s.put dst (.d (.sc (.int .u64 ((a+b:Nat):Int)))))):OL P m ops K (⟨dst,.binOp .or t x y yt,ty,pos,after,none⟩:: r) s:=by
 refine bo hx hy (c:=.int .u64 ((a+b:Nat):Int)) ?_ h;show (if IntKind.u64=IntKind.u64 then some (Value.int .u64 (IntKind.u64.wrap ((BitVec.ofInt 64 b ||| BitVec.ofInt 64 a).toNat:Int))) else none)=_
 rw[if_pos rfl,BitVec.toNat_or,BitVec.ofInt_natCast,BitVec.ofInt_natCast,BitVec.toNat_ofNat,BitVec.toNat_ofNat,Nat.mod_eq_of_lt (by omega),Nat.mod_eq_of_lt (by omega)]
 have e:b ||| a=a+b:=by
  rw[Nat.or_comm,hq,Nat.mul_comm,<- Nat.two_pow_add_eq_or_of_lt hb]
 rw[e,wrap_u64 (by omega)]
theorem OL.split {l:List Oper}(t:Nat){b:Bool}(hb:s.ρ t=.d (.sc (.bool b)))(ht:b=true->OL P m ops K l ⟨upd s.ρ t (.d (.sc (.bool true))),s.M⟩)(hf:b=false->OL P m ops K l ⟨upd s.ρ t (.d (.sc (.bool false))),s.M⟩):OL P m ops K l s:=by
 have e:∀ c,s.ρ t=.d (.sc (.bool c))->(⟨upd s.ρ t (.d (.sc (.bool c))),s.M⟩:S)=s:=λc hc=>by
  have:upd s.ρ t (.d (.sc (.bool c)))=s.ρ:=by
   funext u;unfold upd
   split
   .rename_i h;rw[h,hc]
   .rfl
  rw[this]
 cases b with
 | true=>have:=ht rfl;rwa [e _ hb] at this
 | false=>have:=hf rfl;rwa [e _ hb] at this
theorem orA {t yt:Nat}{x y:Operand}{a b:Nat}(n q:Nat)(hx:s.ev x=.d (.sc (.int .u64 (a:Int))))(hy:s.ev y=.d (.sc (.int .u64 (b:Int))))(hq:a=q*2 ^ n)(hb:b<2 ^ n)(hs:a+b<18446744073709551616)
  (h:OL P m ops K r (s.put dst (.d (.sc (.int .u64 ((a+b:Nat):Int)))))):OL P m ops K (⟨dst,.binOp .or t x y yt,ty,pos,after,none⟩:: r) s:=by
 refine bo hx hy (c:=.int .u64 ((a+b:Nat):Int)) ?_ h;show (if IntKind.u64=IntKind.u64 then some (Value.int .u64 (IntKind.u64.wrap ((BitVec.ofInt 64 a ||| BitVec.ofInt 64 b).toNat:Int))) else none)=_
 rw[if_pos rfl,BitVec.toNat_or,BitVec.ofInt_natCast,BitVec.ofInt_natCast,BitVec.toNat_ofNat,BitVec.toNat_ofNat,Nat.mod_eq_of_lt (by omega),Nat.mod_eq_of_lt (by omega)]
 have e:a ||| b=a+b:=by
  rw[hq,Nat.mul_comm,<- Nat.two_pow_add_eq_or_of_lt hb]
 rw[e,wrap_u64 (by omega)]
end
theorem bG.bF {id id2 b n c:Nat}:bG (.bF id b n c) (.bF id2 b n c):=λF v h=>by cases h with|bF ha hc=>exact .bF ha hc
theorem G6 (a m:Nat):(a:Int) / 2 ^ m=((a / 2 ^ m:Nat):Int):=by rw[Int.natCast_ediv,Int.natCast_pow];rfl
theorem QL (a m:Nat):(a:Int)*2 ^ m=((a*2 ^ m:Nat):Int):=by rw[Int.natCast_mul,Int.natCast_pow];rfl
section
variable {P:Program}{E:Env}{c:Code}{Q:Exit->S->Prop}{s:S}
theorem AW.rename (id id2:Nat)(hM:s.M id2=none)(h:AW P E c Q ⟨s.ρ,λj=>if j=id2 then s.M id else if j=id then none else s.M j⟩):AW P E c Q s:=λF a w hr=>by
 refine h F a w ?_;have key:∀ j blk,(λj=>if j=id2 then s.M id else if j=id then none else s.M j) j=some blk->(j=id2/\s.M id=some blk) \/ (j≠id2/\j≠id/\s.M j=some blk):=λj blk hj=>by
  simp only at hj
  split at hj
  .rename_i e;exact .inl ⟨e,hj⟩
  .split at hj
   .cases hj
   .rename_i e1 e2;exact .inr ⟨e1,e2,hj⟩
 have any:∀ j blk,(λj=>if j=id2 then s.M id else if j=id then none else s.M j) j=some blk->∃ i,s.M i=some blk:=λj blk hj=>by
  rcases key j blk hj with ⟨_,h⟩|⟨_,_,h⟩
  .exact⟨id,h⟩
  .exact⟨j,h⟩
 refine⟨⟨hr.gU.rM,λj blk hj=>let ⟨i,hi⟩:=any j blk hj;hr.gU.own i blk hi,λj blk k hj hk=>let ⟨i,hi⟩:=any j blk hj;hr.gU.apart i blk k hi hk,λi j bi bj k hi hj ki kj=>?_⟩,
  hr.grow,hr.f0,hr.yc,λj blk k hj hk=>let ⟨i,hi⟩:=any j blk hj;hr.kM i blk k hi hk,hr.size,hr.defers,hr.slots⟩
 rcases key i bi hi with ⟨e1,h1⟩|⟨e1,e1',h1⟩ <;> rcases key j bj hj with ⟨e2,h2⟩|⟨e2,e2',h2⟩
 .omega
 .have:=hr.gU.inj id j bi bj k h1 h2 ki kj;omega
 .have:=hr.gU.inj i id bi bj k h1 h2 ki kj;omega
 .exact hr.gU.inj i j bi bj k h1 h2 ki kj
end
theorem jB {k:IntKind}{a b c:Int}(h:a+b=c)(hw:k.wrap c=c):bin .add (.int k a) (.int k b)=some (.int k c):=by simp only[bin,if_true,h,hw]
theorem lQ {k:IntKind}{a b c:Int}(h:a-b=c)(hw:k.wrap c=c):bin .sub (.int k a) (.int k b)=some (.int k c):=by simp only[bin,if_true,h,hw]
theorem KC {k:IntKind}{a b c:Int}(h:a*b=c)(hw:k.wrap c=c):bin .mul (.int k a) (.int k b)=some (.int k c):=by simp only[bin,if_true,h,hw]
theorem wrap_u8 {n:Int}(h:0<=n/\n<=255):IntKind.u8.wrap n=n:=by simp[IntKind.wrap,IntKind.signed,IntKind.bits];omega
theorem Xy {a b:Nat}(ha:a<=18446744073709551615)(hb:0<b):bin .quo (.int .u64 (a:Int)) (.int .u64 (b:Int))=some (.int .u64 ((a / b:Nat):Int)):=by
 have h2:a / b<=a:=Nat.div_le_self ..;simp only[bin,true_and];rw[if_pos (by omega),<- Int.ofNat_tdiv,wrap_u64 ⟨Int.natCast_nonneg _,by have h3:=Nat.le_trans h2 ha;generalize a / b=q at h3 ⊢;omega⟩]
theorem ae2 {a:Nat}(ha:a<=9223372036854775807):bin .quo (.int .i64 (a:Int)) (.int .i64 32)=some (.int .i64 ((a / 32:Nat):Int)):=by
 simp only[bin,true_and];rw[if_pos (by decide),show ((a:Int).tdiv 32)=((a / 32:Nat):Int) from rfl,wrap_i64 (by omega)]
theorem aJ5 {a:Nat}:bin .rem (.int .i64 (a:Int)) (.int .i64 32)=some (.int .i64 ((a % 32:Nat):Int)):=by
 simp only[bin,true_and];rw[if_pos (by decide)]
 rfl
theorem ay1 {a b:Nat}(hb:0<b):bin .rem (.int .u64 (a:Int)) (.int .u64 (b:Int))=some (.int .u64 ((a % b:Nat):Int)):=by
 simp only[bin,true_and];rw[if_pos (by omega),<- Int.ofNat_tmod]
theorem D7 {p:Prop}[Decidable p](h:(!decide p)=true):¬ p:=by simpa using h
theorem Bc {p:Prop}[Decidable p](h:(!decide p)=false):p:=by simpa using h
theorem dL {id b n c:Nat}{es ys:List D}(hn:n=es.length)(hy:es=ys):bG (V.YZ id b c es (.bF id b n c)) (.d (.sl ys)):=by
 subst hy;exact au (by simp[V.YZ,hn])
section
variable {P:Program}{ops:Array Oper}{K:S->Prop}{r:List Oper}{s:S}{ty:TypeId}{pos:String}{after:Array Edge}
theorem sAt {K:S->Prop}{m:Nat}{dst:Option Nat}{x y:Operand}{t:Nat}{bs:ByteArray}{k:IntKind}{n q:Nat}(hT:P.underlying t=some .string)(hx:s.ev x=.d (.sc (.string bs)))(hy:s.ev y=.d (.sc (.int k (n:Int))))(hb:(bs[n]?).map (·.toNat)=some q)
  (h:OL P m ops K r (s.put dst (.d (.sc (.int .u8 q))))):OL P m ops K (⟨dst,.index t x y,ty,pos,after,none⟩:: r) s:=by
 cases hg:bs[n]? with
 | none=>rw[hg] at hb;cases hb
 | some b=>rw[hg] at hb;cases hb;exact OL.pure (.Xo hx hy hT hg) h
theorem J6 {K:S->Prop}{m:Nat}{dst:Option Nat}{α:Type}{x:Operand}{t id b z i j c e:Nat}{l:List α}{f:α->D}{d:D}(hT:jr P t)(d0:α)(hm:SE m=true)(hx:s.ev x=.pW id b z i j)(hM:s.M id=some (.row b c e z (l.map f)))(hi:i<l.length)
  (hd:(f (l.getD i d0)).cells[j]? = some d) (h:OL P m ops K r (s.put dst (.d d))):OL P m ops K (⟨dst,.load t x,ty,pos,after,none⟩:: r) s :=
 aN5 hT hm hx hM (el:=f (l.getD i d0)) (by rw[List.getElem?_map,ig,lu hi];rfl) hd h
theorem FT {K:S->Prop}{m:Nat}{dst:Option Nat}{α:Type}{x:Operand}{t n id b z i j c e:Nat}{l:List α}{f:α->D}{vs:List V}(hT:xK P t n)(d0:α)(hm:SE m=true)(hx:s.ev x=.pW id b z i j)(hM:s.M id=some (.row b c e z (l.map f)))(hi:i<l.length)
  (hv:(((f (l.getD i d0)).cells.drop j).take n).map .d=vs) (hn:j+n<=(f (l.getD i d0)).cells.length) (h:OL P m ops K r (s.put dst (.ag vs))):OL P m ops K (⟨dst,.load t x,ty,pos,after,none⟩:: r) s :=
 FK hT hm hx hM (el:=f (l.getD i d0)) (by rw[List.getElem?_map,ig,lu hi];rfl) hv hn h
theorem isNil {K:S->Prop}{d t e yt:Nat}{x:Operand}{es:List D}(hT:P.underlying t=some (.slice e))(hx:s.ev x=.d (.sl es))(hpos:∀ y,y ∈ es->0<y.cells.length)(hM:s.M d=none)
  (h:∀ b,(b=true->es=[])->OL P 0 ops K r ⟨upd s.ρ d (.d (.sc (.bool b))),upd s.M d (some jA)⟩) :
  OL P 0 ops K (⟨some d,.binOp .eql t x (.const (.slice none 0 0)) yt,ty,pos,after,none⟩:: r) s :=
 OL.new (.isNil hx hT hpos) hM rfl λb _=>h (b == 0 && es.isEmpty) λe=>by simp at e;exact e.2
theorem QM {α:Type}{t e sz eF n cp d:Nat}{x y:Operand}{k k2:IntKind}(f:α->D)(d0:α){zs:List V}(hT:bD P t e sz eF)(hz:eU P e zs)(hc:VCs zs (f d0).cells)(hx:s.ev x=.d (.sc (.int k (n:Int))))(hy:s.ev y=.d (.sc (.int k2 (cp:Int))))
  (hn:n<=cp) (hb:eF*cp<=281474976710656) (hm:cp<=9223372036854775807) (hM:s.M d=none)
  (h:∀ b,OL P 0 ops K r ⟨upd s.ρ d (.bF d b n cp),upd s.M d (some (.row b cp e sz ((List.replicate n d0).map f)))⟩):OL P 0 ops K (⟨some d,.makeSlice t x y,ty,pos,after,none⟩:: r) s :=
 mk3 hT hz hc hx hy hn hb hm hM λb=>by rw[<- List.map_replicate];exact h b
end
section
variable {P:Program}{E:Env}{Q:Exit->S->Prop}{s:S}{id n:Nat}{ops:Array Oper}{y:Code}
theorem AW.rg (hE:E.n=n)(hd:xM n ops=true)(h:OL P 0 ops (Q .normal) ops.toList s):AW P E (.region id ops false) Q s:=AW.region (by rw[hE];exact hd) h
theorem AW.sg (hE:E.n=n)(hd:xM n ops=true)(h:OL P 0 ops (Lh (AW P E y Q) Q .normal) ops.toList s):AW P E (.seq (.region id ops false) y) Q s:=AW.seq (AW.rg hE hd h)
theorem AW.dg (m:Nat)(perm:List Nat)(hf:P.follows .mixedOrders=true)(hE:E.n=n)(hd:xM n ops=true)(hc:VH m ops perm=true)(h:OI P m ops (Q .normal) perm s):AW P E (.region id ops true) Q s:=AW.Td m perm hf (by rw[hE];exact hd) hc h
end
def gno:Option (Option Bool)->Bool->Bool
  | some (some c),b=>c != b
  | some none,_=>true
  | none,_=>false
theorem OL.nd {P:Program}{m:Nat}{ops:Array Oper}{K:S->Prop}{dst:Option Nat}{op:Op}{ty:TypeId}{pos:String}{after:Array Edge}{r:List Oper}{s:S}{j:Nat}{b:Bool}(hg:gno (D5 ops s j) b=true)(h:OL P m ops K r (s.put dst (.jS []))):OL P m ops K (⟨dst,op,ty,pos,after,some (j,b)⟩:: r) s:=by
  cases hv:D5 ops s j with
  | none=>rw[hv] at hg;simp[gno] at hg
  | some c=>exact OL.no hv (λe=>by rw[hv,e] at hg;simp[gno] at hg) h
theorem fH.bZ {a0:V}:fH [a0] [a0]:=fH.refl _
theorem fH.iq {a0 a1:V}:fH [a0,a1] [a0,a1]:=fH.refl _
theorem fH.Ah {a0 a1 a2:V}:fH [a0,a1,a2] [a0,a1,a2]:=fH.refl _
theorem fH.Jz {a0 a1 a2 a3:V}:fH [a0,a1,a2,a3] [a0,a1,a2,a3]:=fH.refl _
theorem fH.DR {a0 a1 a2 a3 a4:V}:fH [a0,a1,a2,a3,a4] [a0,a1,a2,a3,a4]:=fH.refl _
theorem fH.RZ {a0 a1 a2 a3 a4 a5:V}:fH [a0,a1,a2,a3,a4,a5] [a0,a1,a2,a3,a4,a5]:=fH.refl _
theorem fH.rq7 {a0 a1 a2 a3 a4 a5 a6:V}:fH [a0,a1,a2,a3,a4,a5,a6] [a0,a1,a2,a3,a4,a5,a6]:=fH.refl _
theorem fH.Si {a0 a1 a2 a3 a4 a5 a6 a7:V}:fH [a0,a1,a2,a3,a4,a5,a6,a7] [a0,a1,a2,a3,a4,a5,a6,a7]:=fH.refl _
theorem fH.rq9 {a0 a1 a2 a3 a4 a5 a6 a7 a8:V}:fH [a0,a1,a2,a3,a4,a5,a6,a7,a8] [a0,a1,a2,a3,a4,a5,a6,a7,a8]:=fH.refl _
theorem fH.VJ {a0 a1 a2 a3 a4 a5 a6 a7 a8 a9:V}:fH [a0,a1,a2,a3,a4,a5,a6,a7,a8,a9] [a0,a1,a2,a3,a4,a5,a6,a7,a8,a9]:=fH.refl _
theorem fH.aN6 {a0 a1 a2 a3 a4 a5 a6 a7 a8 a9 a10:V}:fH [a0,a1,a2,a3,a4,a5,a6,a7,a8,a9,a10] [a0,a1,a2,a3,a4,a5,a6,a7,a8,a9,a10]:=fH.refl _
theorem fH.aZ4 {a0 a1 a2 a3 a4 a5 a6 a7 a8 a9 a10 a11:V}:fH [a0,a1,a2,a3,a4,a5,a6,a7,a8,a9,a10,a11] [a0,a1,a2,a3,a4,a5,a6,a7,a8,a9,a10,a11]:=fH.refl _
theorem fH.aN7 {a0 a1 a2 a3 a4 a5 a6 a7 a8 a9 a10 a11 a12:V}:fH [a0,a1,a2,a3,a4,a5,a6,a7,a8,a9,a10,a11,a12] [a0,a1,a2,a3,a4,a5,a6,a7,a8,a9,a10,a11,a12]:=fH.refl _
theorem fH.ay2 {a0 a1 a2 a3 a4 a5 a6 a7 a8 a9 a10 a11 a12 a13:V}:fH [a0,a1,a2,a3,a4,a5,a6,a7,a8,a9,a10,a11,a12,a13] [a0,a1,a2,a3,a4,a5,a6,a7,a8,a9,a10,a11,a12,a13]:=fH.refl _
theorem fH.aZ5 {a0 a1 a2 a3 a4 a5 a6 a7 a8 a9 a10 a11 a12 a13 a14:V}:fH [a0,a1,a2,a3,a4,a5,a6,a7,a8,a9,a10,a11,a12,a13,a14] [a0,a1,a2,a3,a4,a5,a6,a7,a8,a9,a10,a11,a12,a13,a14]:=fH.refl _
theorem fH.aN8 {a0 a1 a2 a3 a4 a5 a6 a7 a8 a9 a10 a11 a12 a13 a14 a15:V}:fH [a0,a1,a2,a3,a4,a5,a6,a7,a8,a9,a10,a11,a12,a13,a14,a15] [a0,a1,a2,a3,a4,a5,a6,a7,a8,a9,a10,a11,a12,a13,a14,a15]:=fH.refl _
theorem Knows.bZ {s:S}{t0:Nat}:Knows s [(t0,s.ρ t0)]:=⟨bG.refl _,trivial⟩
theorem Knows.iq {s:S}{t0 t1:Nat}:Knows s [(t0,s.ρ t0),(t1,s.ρ t1)]:=⟨bG.refl _,Knows.bZ⟩
theorem Knows.Ah {s:S}{t0 t1 t2:Nat}:Knows s [(t0,s.ρ t0),(t1,s.ρ t1),(t2,s.ρ t2)]:=⟨bG.refl _,Knows.iq⟩
theorem Knows.Jz {s:S}{t0 t1 t2 t3:Nat}:Knows s [(t0,s.ρ t0),(t1,s.ρ t1),(t2,s.ρ t2),(t3,s.ρ t3)]:=⟨bG.refl _,Knows.Ah⟩
theorem Knows.DR {s:S}{t0 t1 t2 t3 t4:Nat}:Knows s [(t0,s.ρ t0),(t1,s.ρ t1),(t2,s.ρ t2),(t3,s.ρ t3),(t4,s.ρ t4)]:=⟨bG.refl _,Knows.Jz⟩
theorem Knows.RZ {s:S}{t0 t1 t2 t3 t4 t5:Nat}:Knows s [(t0,s.ρ t0),(t1,s.ρ t1),(t2,s.ρ t2),(t3,s.ρ t3),(t4,s.ρ t4),(t5,s.ρ t5)]:=⟨bG.refl _,Knows.DR⟩
theorem Knows.rq7 {s:S}{t0 t1 t2 t3 t4 t5 t6:Nat}:Knows s [(t0,s.ρ t0),(t1,s.ρ t1),(t2,s.ρ t2),(t3,s.ρ t3),(t4,s.ρ t4),(t5,s.ρ t5),(t6,s.ρ t6)]:=⟨bG.refl _,Knows.RZ⟩
theorem Knows.Si {s:S}{t0 t1 t2 t3 t4 t5 t6 t7:Nat}:Knows s [(t0,s.ρ t0),(t1,s.ρ t1),(t2,s.ρ t2),(t3,s.ρ t3),(t4,s.ρ t4),(t5,s.ρ t5),(t6,s.ρ t6),(t7,s.ρ t7)]:=⟨bG.refl _,Knows.rq7⟩
theorem Knows.rq9 {s:S}{t0 t1 t2 t3 t4 t5 t6 t7 t8:Nat}:Knows s [(t0,s.ρ t0),(t1,s.ρ t1),(t2,s.ρ t2),(t3,s.ρ t3),(t4,s.ρ t4),(t5,s.ρ t5),(t6,s.ρ t6),(t7,s.ρ t7),(t8,s.ρ t8)]:=⟨bG.refl _,Knows.Si⟩
theorem Knows.VJ {s:S}{t0 t1 t2 t3 t4 t5 t6 t7 t8 t9:Nat}:Knows s [(t0,s.ρ t0),(t1,s.ρ t1),(t2,s.ρ t2),(t3,s.ρ t3),(t4,s.ρ t4),(t5,s.ρ t5),(t6,s.ρ t6),(t7,s.ρ t7),(t8,s.ρ t8),(t9,s.ρ t9)]:=⟨bG.refl _,Knows.rq9⟩
theorem Knows.aN6 {s:S}{t0 t1 t2 t3 t4 t5 t6 t7 t8 t9 t10:Nat}:Knows s [(t0,s.ρ t0),(t1,s.ρ t1),(t2,s.ρ t2),(t3,s.ρ t3),(t4,s.ρ t4),(t5,s.ρ t5),(t6,s.ρ t6),(t7,s.ρ t7),(t8,s.ρ t8),(t9,s.ρ t9),(t10,s.ρ t10)]:=⟨bG.refl _,Knows.VJ⟩
theorem Knows.aZ4 {s:S}{t0 t1 t2 t3 t4 t5 t6 t7 t8 t9 t10 t11:Nat}:Knows s [(t0,s.ρ t0),(t1,s.ρ t1),(t2,s.ρ t2),(t3,s.ρ t3),(t4,s.ρ t4),(t5,s.ρ t5),(t6,s.ρ t6),(t7,s.ρ t7),(t8,s.ρ t8),(t9,s.ρ t9),(t10,s.ρ t10),(t11,s.ρ t11)]:=⟨bG.refl _,Knows.aN6⟩
theorem Knows.aN7 {s:S}{t0 t1 t2 t3 t4 t5 t6 t7 t8 t9 t10 t11 t12:Nat}:Knows s [(t0,s.ρ t0),(t1,s.ρ t1),(t2,s.ρ t2),(t3,s.ρ t3),(t4,s.ρ t4),(t5,s.ρ t5),(t6,s.ρ t6),(t7,s.ρ t7),(t8,s.ρ t8),(t9,s.ρ t9),(t10,s.ρ t10),(t11,s.ρ t11),(t12,s.ρ t12)]:=⟨bG.refl _,Knows.aZ4⟩
theorem Knows.ay2 {s:S}{t0 t1 t2 t3 t4 t5 t6 t7 t8 t9 t10 t11 t12 t13:Nat}:Knows s [(t0,s.ρ t0),(t1,s.ρ t1),(t2,s.ρ t2),(t3,s.ρ t3),(t4,s.ρ t4),(t5,s.ρ t5),(t6,s.ρ t6),(t7,s.ρ t7),(t8,s.ρ t8),(t9,s.ρ t9),(t10,s.ρ t10),(t11,s.ρ t11),(t12,s.ρ t12),(t13,s.ρ t13)]:=⟨bG.refl _,Knows.aN7⟩
theorem Knows.aZ5 {s:S}{t0 t1 t2 t3 t4 t5 t6 t7 t8 t9 t10 t11 t12 t13 t14:Nat}:Knows s [(t0,s.ρ t0),(t1,s.ρ t1),(t2,s.ρ t2),(t3,s.ρ t3),(t4,s.ρ t4),(t5,s.ρ t5),(t6,s.ρ t6),(t7,s.ρ t7),(t8,s.ρ t8),(t9,s.ρ t9),(t10,s.ρ t10),(t11,s.ρ t11),(t12,s.ρ t12),(t13,s.ρ t13),(t14,s.ρ t14)]:=⟨bG.refl _,Knows.ay2⟩
theorem Knows.aN8 {s:S}{t0 t1 t2 t3 t4 t5 t6 t7 t8 t9 t10 t11 t12 t13 t14 t15:Nat}:Knows s [(t0,s.ρ t0),(t1,s.ρ t1),(t2,s.ρ t2),(t3,s.ρ t3),(t4,s.ρ t4),(t5,s.ρ t5),(t6,s.ρ t6),(t7,s.ρ t7),(t8,s.ρ t8),(t9,s.ρ t9),(t10,s.ρ t10),(t11,s.ρ t11),(t12,s.ρ t12),(t13,s.ρ t13),(t14,s.ρ t14),(t15,s.ρ t15)]:=⟨bG.refl _,Knows.aZ5⟩
theorem aB {n m:Nat}(h:Nat.ble n m=true):n<=m:=Nat.le_of_ble_eq_true h
theorem dX:(∀ (p:Prop) [Decidable p],(decide p=true)=p)/\(∀ (p:Prop) [Decidable p],decide p=false ↔ ¬p)/\(∀ b:Bool,((!b)=true)=(b=false))/\(∀ b:Bool,((!b)=false)=(b=true))/\(∀ b:Bool,(!(!b))=b) /\
  (∀ a b:Bool,((a && b)=true)=(a=true/\b=true))/\(∀ a b:Bool,((a && b)=false)=(a=false \/ b=false))/\(∀ a b:Bool,((a || b)=true)=(a=true \/ b=true))/\(∀ a b:Bool,((a || b)=false)=(a=false/\b=false)) :=
 ⟨λp _=>decide_eq_true_eq,λp _=>decide_eq_false_iff_not,λb=>by cases b <;> simp,λb=>by cases b <;> simp,λb=>by cases b <;> rfl,λa b=>by cases a <;> cases b <;> simp,λa b=>by cases a <;> cases b <;> simp,λa b=>by cases a <;> cases b <;> simp,λa b=>by cases a <;> cases b <;> simp⟩
