/-
  AL, part 37: rows of rows of rows: the innermost rows become data within a pool of rows of heads.
-/
import Derived.Test.YtnjoncgnjdkaoaaGreatDoorKAlg31
import Derived.DataElems
set_option linter.unusedVariables false
set_option linter.unusedSimpArgs false
namespace Go.AL
open Go Go.BigFrame
def jw {α:Type}(P:Program)(f:Nat)(args:List V)(M:Mem)(res:α->V)(M':α->Mem)(φ:α->Prop):Prop :=
 pX P f/\∀ (F:Hp) (w:World) (vals:List Value),wI F M w->kU F vals args ->
  Calls P f vals.toArray w λe w'=>∃ x,φ x/\∃ v F',e=.returned v/\After F M w F' (M' x) w' /\ dm F' v (res x)
def bl7 {α:Type}(P:Program)(fn:Func)(Mk:α->Mem)(res:α->V)(φ:α->Prop)(e:Exit)(s:S):Prop:=∃ x,φ x/\aP P fn (Mk x) (res x) e s
section
variable {P:Program}
theorem jw.intro {α:Type} {f:Nat} {fn:Func} {c:Code} {args:List V} {Mc:Mem} {Mk:α->Mem} {res:α->V} {φ:α->Prop} (hf:P.funcs[f]? = some fn) (hname:(fn.name == "runtime.NumGoroutine")=false) (hb:fn.body=some c) (hn:args.length<=fn.ntmps)
  (h:∀ E:Env,E.n=fn.ntmps->AW P E c (bl7 P fn Mk res φ) ⟨sW args,Mc⟩):jw P f args Mc res Mk φ:=by
 refine⟨by simp[pX,hf,hname,hb],λF w vals hS hv=>calls_of_wp hf hb ?_⟩
 have hlen:vals.length=args.length:=hv.1
 have hrun:Run ⟨w,F,jM Mc,fn.ntmps⟩ F ⟨sW args,Mc⟩ { tmps:=vals.toArray++Array.replicate (fn.ntmps-vals.toArray.size) undef,defers:=[] } w:=by
  refine⟨hS,Grow.refl _ _,Hp.le.refl F,λk p q=>absurd p q,λid blk k hm ho=>.inr ⟨id,blk,hm,ho⟩,by simp;omega,rfl,λt=>?_⟩
  simp only[sW]
  by_cases ht:t<args.length
  .have h1:args[t]? = some args[t]:=lu ht
   have h2:vals[t]? = some (vals[t]'(by omega)):=lu (by omega)
   rw[ig,h1,Array.getD_eq_getD_getElem?,Array.getElem?_append_left (by simpa [hlen] using ht),List.getElem?_toArray,h2]
   exact hv.2 t _ _ h1 h2
  .rw[ig,List.getElem?_eq_none (by omega)]
   exact .junk
 refine wp_mono (h ⟨w,F,jM Mc,fn.ntmps⟩ rfl F _ w hrun) λe a' w' ⟨F',s',hr,x,hφ,hq⟩=>?_
 have done:∀ (hq:(∃ xs,Xw P s' fn.results.toList xs/\SS s'.M (Mk x) xs (res x))/\∀ id blk,Mk x id=some blk->s'.M id=some blk),
   a'.defers=[]/\∃ v,(results fn a'.tmps).run P w' = .ok v w' /\ ∃ x,φ x/\∃ v' F',Ending.returned v=.returned v' /\ After F Mc w F' (Mk x) w' /\ dm F' v' (res x):=by
  rintro⟨⟨xs,hrv,hro⟩,hk⟩
  obtain⟨us,h1,h2⟩:=hrv.run hr
  refine⟨hr.defers,if h:us.toArray.size=1 then us.toArray[0] else .tuple us.toArray,?_,x,hφ,_,lD F' s'.M (Mk x) w',rfl,?_,?_⟩
  .rw[yU,Sem.run_bind,Array.mapM_eq_mapM_toList,Sem.run_map,h1]
   rfl
  .refine⟨hr.grow,hr.f0.trans (yL hr.gU (Mk x)),⟨λk o hk'=>?_,λid blk hm=>(hr.gU.own id blk (hk id blk hm)).keep (yL hr.gU (Mk x)) λ_ _=>rfl,λid blk k hm ho=>?_,λi j bi bj k hi hj=>hr.gU.inj i j bi bj k (hk i bi hi) (hk j bj hj)⟩,λk p q=>?_,λk ⟨id,blk,hm,ho⟩=>hr.kM id blk k (hk id blk hm) ho⟩
   .unfold lD at hk'
    split at hk'
    .exact hk'
    .exact hr.gU.rM k o hk'
   .unfold lD
    split
    .rename_i hfz
     obtain⟨id',b,c,e,sz,es,hm',hk',hc,rfl⟩:=hfz
     have:=hr.gU.inj id id' _ _ k (hk id blk hm) hm' ho ⟨hc,rfl⟩
     subst this
     rw[hm] at hk';cases hk'
    .exact hr.gU.apart id blk k (hk id blk hm) ho
   .unfold lD at q
    split at q
    .rename_i hfz
     obtain⟨id',b,c,e,sz,es,hm',hk',hc,rfl⟩:=hfz
     exact hr.kM id' _ k hm' ⟨hc,rfl⟩
    .exact hr.yc k p q
  .match xs,us,hro,h2 with
   | [x'],[u],hro,h2 =>
    simp only[List.size_toArray,oU,dite_true]
    exact RO.gU hr.gU hro (h2.2 0 x' u rfl rfl)
   | [],us,hro,h2 =>
    have hu:us=[]:=IK h2.1
    subst hu
    obtain⟨ys,hys,e⟩:=hro
    rw[e]
    cases hys
    exact .jS rfl λi c u hc _=>by simp at hc
   | x' :: y::xs,us,hro,h2 =>
    obtain⟨ys,hys,e⟩:=hro
    rw[e]
    obtain⟨e1,e2⟩:=ROs.gU hr.gU hys h2.1 h2.2
    have hne:¬ us.toArray.size=1:=by have:=h2.1;simp at this ⊢;omega
    rw[dif_neg hne]
    exact .jS e1 e2
 cases e with
 | normal=>exact done hq
 | ret=>exact done hq
 | _=>exact hq.elim
theorem SO.JF {α:Type}{E:Env}{K:S->Prop}{s:S}{pos:String}{after:Array Edge}{ty:Nat}{f:Operand}{args:Array Operand}{ats:Array TypeId}{nR:Nat}{caps args':List V}{Mc:Mem}{Mk:α->Mem}{res:α->V}{φ:α->Prop}{dst:Option Nat}{g:Option (Nat × Bool)}(hd:oV E.n dst)
  (hf:s.ev f=.fn nR caps) (ha:fH (args.toList.map s.ev++caps) args') (hc:∀ id blk,Mc id=some blk->s.M id=some blk) (hs:jw P nR args' Mc res Mk φ) (hc':∀ x,φ x->∀ id,Mc id=none->Mk x id=none)
  (h:∀ x,φ x->K ((⟨s.ρ,s.M.over Mc (Mk x)⟩:S).put dst (res x))):SO P E ⟨dst,.call { callee:=.value f,args:=args,argTypes:=ats },ty,pos,after,g⟩ K s:=λF a w hr=>by
 have hf':=hr.eval f;rw[hf] at hf'
 generalize YQ:a.eval f=af at hf'
 cases hf' with
 | @fn _ us _ hl hrr =>
  have hvs:kU F (args.toList.map a.eval++us) args':=qw (wJ (oZ hr.eval _) ⟨hl,hrr⟩) ha
  have hcc:=hs.2 F w _ (Cm hr.gU hc) hvs
  unfold execOp
  have e1:(args.map a.eval++us.toArray)=(args.toList.map a.eval++us).toArray:=by simp
  simp only[resolve,YQ,Deferred.ofValue,Sem.run_bind,Sem.run_pure,Result.andThen_ok,invoke,Array.empty_append,e1,mO hs.1]
  refine hcc.mono λe2 w' ⟨x,hφ,v,F',he,hA,hv⟩=>⟨v,he,F',_,hr.qC (After.over hr.gU hc (hc' x hφ) hA) hd hv,h x hφ⟩
def SK (P:Program)(E:Env)(ops:Array Oper)(K:S->Prop):List Oper->S->Prop
 | [],s=>K s
 | o::r,s=>OG P 0 ops o (SK P E ops K r) s \/ ((match o.guard with|none=>True|some (j,want)=>D5 ops s j=some (some want))/\SO P E o (SK P E ops K r) s)
theorem SK.wpList {E:Env}{ops:Array Oper}{Q:Exit->S->Prop}:∀ (l:List Oper) {s:S} {a:Act} {F:Hp} {w:World},Run E F s a w->(∀ o,o ∈ l->oV E.n o.dst)->SK P E ops (Q .normal) l s ->
  Go.wpList P ops (Jv E Q) l a w
 | [],s,a,F,w,hr,_,h=>⟨F,s,hr,h⟩
 | o :: r, s, a, F, w, hr, hd, h => by
  have hdo:=hd o uZ
  have hdr:=λx hx=>hd x (List.mem_cons_of_mem _ hx)
  unfold Go.wpList
  unfold SK at h
  rcases h with h|⟨hg,h⟩
  .unfold OG at h
   cases hg:o.guard with
   | none =>
    simp only[hg] at h
    rw[if_pos (by simp[Region.wanted,hg])]
    exact .inl ((h.sound hr hdo).wp λu w' ⟨F',s',hr',hk⟩=>SK.wpList r hr' hdr hk)
   | some q =>
    obtain⟨j,want⟩:=q
    simp only[hg] at h
    obtain⟨b,h1,h2⟩:=h
    have hy:=vw hr h1
    rcases h2 with ⟨e,h2⟩|⟨e,h2⟩
    .rw[if_pos (by simp[Region.wanted,hg,hy,e])]
     exact .inl ((h2.sound hr hdo).wp λu w' ⟨F',s',hr',hk⟩=>SK.wpList r hr' hdr hk)
    .rw[if_neg (by simp[Region.wanted,hg,hy,e])]
     exact SK.wpList r (hr.junk hdo) hdr h2
  .cases hgd:o.guard with
   | none =>
    rw[if_pos (by simp[Region.wanted,hgd])]
    exact .inl ((h F a w hr).wp λu w' ⟨F',s',hr',hk⟩=>SK.wpList r hr' hdr hk)
   | some q =>
    obtain⟨j,want⟩:=q
    rw[hgd] at hg
    have hy:=vw hr hg
    rw[if_pos (by simp[Region.wanted,hgd,hy])]
    exact .inl ((h F a w hr).wp λu w' ⟨F',s',hr',hk⟩=>SK.wpList r hr' hdr hk)
theorem AW.vC {E:Env}{s:S}{id:Nat}{ops:Array Oper}{Q:Exit->S->Prop}(hd:xM E.n ops=true)(h:SK P E ops (Q .normal) ops.toList s):AW P E (.region id ops false) Q s :=
 λ_ _ _ hr=>wp_region_list (SK.wpList _ hr (xM.spec hd) h)
theorem SK.fM {E:Env}{ops:Array Oper}{K:S->Prop}{o:Oper}{r:List Oper}{s:S}(h:OL P 0 ops (SK P E ops K r) [o] s):SK P E ops K (o::r) s:=.inl h
theorem SK.IY {E:Env}{ops:Array Oper}{K:S->Prop}{dst:Option Nat}{op:Op}{ty:TypeId}{pos:String}{after:Array Edge}{r:List Oper}{s:S}(h:SO P E ⟨dst,op,ty,pos,after,none⟩ (SK P E ops K r) s):SK P E ops K (⟨dst,op,ty,pos,after,none⟩:: r) s:=.inr ⟨trivial,h⟩
theorem SK.a18 {E:Env}{ops:Array Oper}{K:S->Prop}{dst:Option Nat}{op:Op}{ty:TypeId}{pos:String}{after:Array Edge}{j:Nat}{b:Bool}{r:List Oper}{s:S}(hg:D5 ops s j=some (some b))(h:SO P E ⟨dst,op,ty,pos,after,some (j,b)⟩ (SK P E ops K r) s):SK P E ops K (⟨dst,op,ty,pos,after,some (j,b)⟩:: r) s:=.inr ⟨hg,h⟩
theorem AW.xQ {E:Env}{c:Code}{Q:Exit->S->Prop}{s:S}(id e sz:Nat)(hM:s.M id=none)(h:AW P E c Q ⟨s.ρ,upd s.M id (some (.row 0 0 e sz []))⟩):AW P E c Q s:=λF a w hr=>by
 refine h F a w ?_
 have hs:=Lc hr.gU id e sz
 refine⟨hs,hr.grow,hr.f0,hr.yc,λj blk k hm ho=>?_,hr.size,hr.defers,hr.slots⟩
 simp only[upd] at hm
 split at hm
 .cases hm;obtain⟨h,_⟩:=ho;omega
 .exact hr.kM j blk k hm ho
theorem oL {id b:Nat}:bG .mt (.bF id b 0 0):=λF v h=>by
 cases h
 exact .bF (λh=>absurd h (Nat.lt_irrefl 0)) (Nat.le_refl _)
theorem SK.nil {E:Env}{ops:Array Oper}{K:S->Prop}{s:S}(h:K s):SK P E ops K [] s:=h
end
end Go.AL
namespace Go.AL
open Go Go.BigFrame Go.RowKit
def CR (w:World)(cs:List Value)(ds:List D):Prop:=cs.length=ds.length/\∀ (i:Nat) (v:Value) (d:D),cs[i]? = some v->ds[i]? = some d->v.oneCell' = true/\Rep (yx w) v d
theorem CR.one {w:World}{v:Value}{d:D}(ho:v.oneCell' = true)(h:Rep (yx w) v d):CR w [v] [d]:=⟨rfl,λi v' d' hv hd=>by
 cases i with
 | zero=>cases hv;cases hd;exact⟨ho,h⟩
 | succ i=>simp at hv⟩
theorem CR.app {w:World}{cs cs2:List Value}{ds ds2:List D}(h:CR w cs ds)(k:CR w cs2 ds2):CR w (cs++cs2) (ds++ds2):=by
 refine⟨by rw[jG,jG,h.1,k.1],λi v d hv hd=>?_⟩
 rw[List.getElem?_append] at hv hd
 rw[<- h.1] at hd
 split at hv
 .rename_i hi;rw[if_pos hi] at hd;exact h.2 i v d hv hd
 .rename_i hi;rw[if_neg hi] at hd;exact k.2 _ v d hv hd
theorem CR.gU {w:World}{cs:List Value}{ds:List D}(h:CR w cs ds):dm (yx w) (.agg cs.toArray) (.ag (ds.map .d)):=by
 refine .ag (by rw[dJ];exact h.1) (λu hu=>?_) (λi c u hc hu=>?_)
 .obtain⟨i,hi,rfl⟩:=List.getElem_of_mem hu
  exact (h.2 i _ _ (lu hi) (lu (by rw[<- h.1];exact hi))).1
 .rw[List.getElem?_map] at hc
  cases hd:ds[i]? with
  | none=>rw[hd] at hc;cases hc
  | some d =>
   rw[hd] at hc;cases hc
   obtain⟨a,b⟩:=h.2 i u d hu hd
   exact .d b a
structure bl8 {H:Type} (β:DataW H->Nat):Prop where
 el:∀ es sp d,d ∈ es->β d<=β (.slice es sp)
 ln:∀ es sp,es.length<=β (.slice es sp)
 ag:∀ ps d,d ∈ ps->β d<=β (.agg ps)
section
variable {H:Type}(enc:TypeId × Value->H)(P:Program)(w:World)(base:Nat)(spare:Nat->Bool)(held:Bool)(β:DataW H->Nat)
def Opens (t:TypeId){α:Type}(f:α->D)(ok:α->Nat->Prop):Prop :=
 ∀ (fuel:Nat) (cs:List Value) (x:DataW H × List MemPlace),DataW.trod enc P w base spare held fuel t cs=some x->∃ a,CR w cs (f a).cells/\ok a (β x.1)
end
section
variable {H:Type}{enc:TypeId × Value->H}{P:Program}{w:World}{base:Nat}{spare:Nat->Bool}{held:Bool}{β:DataW H->Nat}
theorem Opens.int {t:TypeId}(ht:P.underlying t=some (.int .i64)):Opens enc P w base spare held β t dI λ_ _=>True:=λfuel cs x h=>by
 obtain⟨n,rfl,_,_⟩:=DataW.trod_int ht h
 exact⟨n,.one rfl (.sc rfl),trivial⟩
theorem Opens.u32 {t:TypeId}(ht:P.underlying t=some (.int .u32)):Opens enc P w base spare held β t zY λn _=>n<4294967296:=λfuel cs x h=>by
 obtain⟨n,rfl,_,hw⟩:=DataW.trod_int ht h
 simp only[Lit.wf,Bool.and_eq_true,decide_eq_true_eq] at hw
 have e1:IntKind.min .u32=0:=by decide
 have e2:IntKind.max .u32=4294967295:=by decide
 rw[e1,e2] at hw
 obtain⟨h1,h2⟩:=hw
 refine⟨n.toNat,?_,by omega⟩
 have e:(n.toNat:Int)=n:=Int.toNat_of_nonneg h1
 show CR w [.int .u32 n] [.sc (.int .u32 (n.toNat:Int))]
 rw[e]
 exact .one rfl (.sc rfl)
theorem Opens.bool {t:TypeId}(ht:P.underlying t=some .bool):Opens enc P w base spare held β t dB λ_ _=>True:=λfuel cs x h=>by
 obtain⟨b,rfl,_⟩:=DataW.trod_bool ht h
 exact⟨b,.one rfl (.sc rfl),trivial⟩
theorem JG {α:Type}{p:Nat->α->Prop}:∀ {n:Nat},(∀ i,i<n->∃ a,p i a)->∃ l:List α,l.length=n/\∀ i a,l[i]? = some a->p i a
 | 0,_=>⟨[],rfl,λi a h=>by simp at h⟩
 | n + 1, h => by
  obtain⟨l,hl,hp⟩:=JG (n:=n) λi hi=>h i (by omega)
  obtain⟨a,ha⟩:=h n (by omega)
  refine⟨l++[a],by rw[jG,hl];rfl,λi b hb=>?_⟩
  rw[List.getElem?_append] at hb
  split at hb
  .exact hp i b hb
  .rename_i hi
   rcases Nat.lt_or_ge (i-l.length) 1 with x|x
   .rw[show i-l.length=0 by omega] at hb
    cases hb
    rw[show i=n by omega];exact ha
   .rw[List.getElem?_eq_none (by simpa using x)] at hb;cases hb
theorem XV {α:Type}{f:α->D}{sz:Nat}(hf:∀ a,(f a).cells.length=sz)(h0:0<sz):∀ (l:List α) (i:Nat),((l.map f).flatMap D.cells)[i]? = (l[i / sz]?).bind λa=>(f a).cells[i % sz]?
 | [],i=>by simp
 | a :: l, i => by
  rw[List.map_cons,List.flatMap_cons,List.getElem?_append,hf a]
  split
  .rename_i hi
   rw[Nat.div_eq_of_lt hi,Nat.mod_eq_of_lt hi];rfl
  .rename_i hi
   rw[XV hf h0 l (i-sz)]
   have e1:i / sz=(i-sz) / sz+1:=by
    conv=>lhs;rw[show i=(i-sz)+sz by omega]
    exact Nat.add_div_right _ h0
   have e2:i % sz=(i-sz) % sz:=by
    conv=>lhs;rw[show i=(i-sz)+sz by omega]
    exact Nat.add_mod_right _ _
   rw[e1,e2];rfl
theorem Opens.slice {t e:TypeId}{sz:Nat}{α:Type}{f:α->D}{ok:α->Nat->Prop}(ht:P.underlying t=some (.slice e))(hc:P.cellsOf e=sz)(h0:0<sz)(hf:∀ a,(f a).cells.length=sz)(hm:bl8 β)(mono:∀ a b c,ok a b->b<=c->ok a c)
  (ho:Opens enc P w base spare held β e f ok):Opens enc P w base spare held β t (λl:List α=>D.sl (l.map f)) λl b=>l.length<=b/\∀ a,a ∈ l->ok a b:=λfuel cs x h=>by
 rcases DataW.trod_slice ht h with ⟨rfl,rfl⟩|⟨ad,len,cap,elems,rest,n,rfl,rfl,rfl,hb,hl,hmx,hel,hget,_,_⟩
 .exact⟨[],.one rfl Rep.nil_,Nat.zero_le _,λa ha=>by cases ha⟩
 .rw[hc] at hget
  have key:∀ i,i<len->∃ a:α,(∃ cs',w.cells? base (ad.add (i*sz)) sz=some cs' /\ CR w cs' (f a).cells)/\ok a (β (.slice (elems.map (·.1)) (rest.map (·.1)))):=λi hi=>by
   have hg:=hget i hi
   rw[lu (by omega)] at hg
   obtain⟨cs',h1,h2⟩:=Option.bind_eq_some_iff.1 hg
   obtain⟨a,h3,h4⟩:=ho n cs' _ h2
   exact⟨a,⟨cs',h1,h3⟩,mono a _ _ h4 (hm.el _ _ _ (List.mem_map.2 ⟨_,List.getElem_mem (by omega),rfl⟩))⟩
  obtain⟨l,hll,hlp⟩:=JG key
  have cell:∀ i,i<len*sz->∃ a u d,l[i / sz]? = some a/\(f a).cells[i % sz]? = some d/\w.cell? (ad.add i)=some u/\u.oneCell' = true/\Rep (yx w) u d:=λi hi=>by
   have hq:i / sz<len:=(Nat.div_lt_iff_lt_mul h0).2 hi
   have hr:i % sz<sz:=Nat.mod_lt _ h0
   have hla:=lu (l:=l) (i:=i / sz) (by omega)
   obtain⟨⟨cs',h1,h2⟩,_⟩:=hlp _ _ hla
   obtain⟨_,h3,h4⟩:=World.cells?_some h1
   have h5:=h4 (i % sz) hr
   have e:(ad.add (i / sz*sz)).add (i % sz)=ad.add i:=by
    have:i / sz*sz+i % sz=i:=Nat.div_add_mod' i sz
    rw[Addr.add_add,this]
   rw[e] at h5
   have hcl:i % sz<(f l[i / sz]).cells.length:=by rw[hf];exact hr
   have hu:=lu (l:=cs') (i:=i % sz) (by omega)
   have hd:=lu hcl
   obtain⟨h6,h7⟩:=h2.2 _ _ _ hu hd
   exact⟨_,_,_,hla,hd,h5.trans hu,h6,h7⟩
  refine⟨l,.one rfl (.sl (sz:=sz) (us:=λi=>(w.cell? (ad.add i)).getD (.bool false)) (by rw[dJ];exact hll) hl (λy hy=>by obtain⟨a,_,rfl⟩:=mM hy;exact hf a) (λi hi=>?_) (λi hi=>?_) λi d hd=>?_),?_,λa ha=>?_⟩
  .obtain⟨a,u,d,_,_,h3,_,_⟩:=cell i hi
   exact⟨ad,rfl,by rw[JD,h3];rfl⟩
  .obtain⟨a,u,d,_,_,h3,h4,_⟩:=cell i hi
   rw[h3];exact h4
  .rw[XV hf h0] at hd
   obtain⟨a,ha,hd⟩:=Option.bind_eq_some_iff.1 hd
   have hq:i / sz<l.length:=(List.getElem?_eq_some_iff.1 ha).1
   have hi:i<len*sz:=(Nat.div_lt_iff_lt_mul h0).1 (by omega)
   obtain⟨a2,u,d2,h1,h2,h3,_,h5⟩:=cell i hi
   rw[ha] at h1;cases h1
   rw[hd] at h2;cases h2
   simp only[h3];exact h5
  .have:=hm.ln (elems.map (·.1)) (rest.map (·.1))
   rw[dJ] at this
   show l.length<=β (.slice (elems.map (·.1)) (rest.map (·.1)))
   omega
  .obtain⟨i,hi,rfl⟩:=List.getElem_of_mem ha
   exact (hlp i _ (lu hi)).2
end
end Go.AL
namespace Go.AL
open Go
theorem jd.data {P:Program}{f n e sz:Nat}{args:List V}{es:List D}(h:jd P f args n e sz es)(hn:n=es.length):aj P f args (.d (.sl es)) :=
 ⟨h.1,λF w vals hF hv=>(h.2 F w vals hF hv).mono λx w' ⟨v,F',b,c,he,hx,hv,hok,hfr⟩=>by
  have key:∀ j blk,(λj=>if j=0 then some (iE.row b c e sz es) else none) j=some blk->j=0/\blk=.row b c e sz es:=λj blk hj=>by
   simp only at hj
   split at hj
   .rename_i e;cases hj;exact⟨e,rfl⟩
   .cases hj
  have hS2:wI F' (λj=>if j=0 then some (.row b c e sz es) else none) w':=by
   refine⟨hx.rM,λj blk hj=>?_,λj blk k hj hk=>?_,λi j bi bj k hi hj ki kj=>?_⟩
   .obtain⟨_,rfl⟩:=key j blk hj;exact hok
   .obtain⟨_,rfl⟩:=key j blk hj;exact (hfr k hk).2
   .rw[(key i bi hi).1,(key j bj hj).1]
  obtain⟨F2,b1,b2,b3,b4⟩:=wK (id:=0) hS2 rfl
  refine⟨v,F2,he,⟨hx.grow,hx.le.trans b1,b2.rM,λk p q=>?_⟩,?_⟩
  .cases hf:F' k with
   | none =>
    obtain⟨j,blk,hj,hk⟩:=b3 k hf q
    obtain⟨_,rfl⟩:=key j blk hj
    exact (hfr k hk).1
   | some o=>exact hx.new k p (by rw[hf];simp)
  .have h1:=b4 v n hv (by omega)
   rw[hn,List.take_length] at h1
   cases hv
   exact .d h1 rfl⟩
theorem AW.rowLen {P:Program}{E:Env}{k:Code}{Q:Exit->S->Prop}{s:S}(d:Nat){b c e sz:Nat}{es:List D}(hM:s.M d=some (.row b c e sz es))(h:es.length<=c->AW P E k Q s):AW P E k Q s:=λF a w hr =>
 h (hr.gU.own d _ hM:lX F w b c e sz es).1 F a w hr
end Go.AL
namespace Go.AL
open Go Go.BigFrame
section
variable {P:Program}{m:Nat}{ops:Array Oper}{K:S->Prop}{r:List Oper}{s:S}{dst:Option Nat}{ty:TypeId}{pos:String}{after:Array Edge}
theorem knI {k t:Nat}{y:V}(h:s.ρ k=.JX t y):bG (s.ρ k) (.JX t y):=au h
end
section
variable {P:Program}{E:Env}{F:Hp}{s:S}{a:Act}{w:World}
theorem AW.post {c:Code}{Q Q':Exit->S->Prop}(h:AW P E c Q' s)(hq:∀ e s',Q' e s' -> ∀ F a w,Run E F s' a w->∃ F' s2,Run E F' s2 a w/\Q e s2):AW P E c Q s:=λF a w hr =>
 wp_mono (h F a w hr) λe a w ⟨_,s',hr',hq'⟩=>hq e s' hq' _ a w hr'
theorem Run.rename (id id2:Nat)(hM:s.M id2=none)(hr:Run E F s a w):Run E F ⟨s.ρ,λj=>if j=id2 then s.M id else if j=id then none else s.M j⟩ a w:=by
 have key:∀ j blk,(λj=>if j=id2 then s.M id else if j=id then none else s.M j) j=some blk->(j=id2/\s.M id=some blk) \/ (j≠id2/\j≠id/\s.M j=some blk):=λj blk hj=>by
  simp only at hj
  split at hj
  .rename_i e;exact .inl ⟨e,hj⟩
  .split at hj
   .cases hj
   .rename_i e1 e2;exact .inr ⟨e1,e2,hj⟩
 have any:∀ j blk,(λj=>if j=id2 then s.M id else if j=id then none else s.M j) j=some blk->∃ i,s.M i=some blk:=λj blk hj=>by
  rcases key j blk hj with ⟨_,h⟩|⟨_,_,h⟩
  .exact⟨id,h⟩
  .exact⟨j,h⟩
 refine⟨⟨hr.gU.rM,λj blk hj=>let ⟨i,hi⟩:=any j blk hj;hr.gU.own i blk hi,λj blk k hj hk=>let ⟨i,hi⟩:=any j blk hj;hr.gU.apart i blk k hi hk,λi j bi bj k hi hj ki kj=>?_⟩,
  hr.grow,hr.f0,hr.yc,λj blk k hj hk=>let ⟨i,hi⟩:=any j blk hj;hr.kM i blk k hi hk,hr.size,hr.defers,hr.slots⟩
 rcases key i bi hi with ⟨e1,h1⟩|⟨e1,e1',h1⟩ <;> rcases key j bj hj with ⟨e2,h2⟩|⟨e2,e2',h2⟩
 .omega
 .have:=hr.gU.inj id j bi bj k h1 h2 ki kj;omega
 .have:=hr.gU.inj i id bi bj k h1 h2 ki kj;omega
 .exact hr.gU.inj i j bi bj k h1 h2 ki kj
theorem Run.xO (id:Nat){b t:Nat}{cells:List V}(cells2:List V)(hM:s.M id=some (.box b t cells))(hl:fH cells cells2)(hr:Run E F s a w):Run E F ⟨s.ρ,upd s.M id (some (.box b t cells2))⟩ a w:=by
 have key:∀ j blk,upd s.M id (some (.box b t cells2)) j=some blk->(j=id/\blk=.box b t cells2) \/ (j≠id/\s.M j=some blk):=λj blk hj=>by
  unfold upd at hj
  split at hj
  .rename_i e;cases hj;exact .inl ⟨e,rfl⟩
  .rename_i e;exact .inr ⟨e,hj⟩
 have any:∀ j blk k,upd s.M id (some (.box b t cells2)) j=some blk->blk.owns k->∃ bl,s.M j=some bl/\bl.owns k:=λj blk k hj hk=>by
  rcases key j blk hj with ⟨rfl,rfl⟩|⟨_,h⟩
  .exact⟨_,hM,hk⟩
  .exact⟨_,h,hk⟩
 refine⟨⟨hr.gU.rM,λj blk hj=>?_,λj blk k hj hk=>?_,λi j bi bj k hi hj ki kj=>?_⟩,hr.grow,hr.f0,hr.yc,λj blk k hj hk=>?_,hr.size,hr.defers,hr.slots⟩
 .rcases key j blk hj with ⟨rfl,rfl⟩|⟨_,h⟩
  .obtain⟨cs,h1,h2,h3,h4⟩:=hr.gU.own _ _ hM
   refine⟨cs,h1,by rw[h2];exact hl.length,h3,λi v u hv hu=>?_⟩
   obtain⟨x,hx,hle⟩:=hl.get i v hv
   exact hle _ _ (h4 i x u hx hu)
  .exact hr.gU.own _ _ h
 .obtain⟨bl,hb,ho⟩:=any j blk k hj hk
  exact hr.gU.apart j bl k hb ho
 .obtain⟨b1,hb1,ho1⟩:=any i bi k hi ki
  obtain⟨b2,hb2,ho2⟩:=any j bj k hj kj
  exact hr.gU.inj i j b1 b2 k hb1 hb2 ho1 ho2
 .obtain⟨bl,hb,ho⟩:=any j blk k hj hk
  exact hr.kM j bl k hb ho
theorem Run.to (hr:Run E F s a w)(l:List (Nat × V))(M:List (Nat × iE))(hl:Knows s l)(hM:dw s M):Run E F (st l M) a w:=hr.weak ⟨aJ2 hl,mr hM⟩
end
section
variable {P:Program}{m:Nat}{ops:Array Oper}{K:S->Prop}{r:List Oper}{s:S}{dst:Option Nat}{ty:TypeId}{pos:String}{after:Array Edge}
theorem ah0 {id id2 b sz n c:Nat}:bG (.bF id b n c) (.xI id2 b sz 0 n c):=λF v h=>by cases h with|bF p q=>exact .xI (λh=>by rw[p h,Nat.zero_mul]) q
theorem mvB {x:Operand}{id b z o n c:Nat}(hx:s.ev x=.xI id b z o n c)(h:OL P m ops K r (s.put dst (.xI id b z o n c))):OL P m ops K (⟨dst,.move x,ty,pos,after,none⟩:: r) s:=OL.pure (hx ▸ Pure.move x) h
theorem asB {x:Operand}{id b z o n c:Nat}(hx:s.ev x=.xI id b z o n c)(h:OL P m ops K r (s.put dst (.xI id b z o n c))):OL P m ops K (⟨dst,.assign x,ty,pos,after,none⟩:: r) s:=OL.pure (hx ▸ Pure.assign x) h
theorem knB {k id b z o n c:Nat}(h:s.ρ k=.xI id b z o n c):bG (s.ρ k) (.xI id b z o n c):=au h
theorem slB {x lo:Operand}{t e sz eF id b n c l n2:Nat}{k:IntKind}(hT:bD P t e sz eF)(hx:s.ev x=.bF id b n c)(hy:s.ev lo=.d (.sc (.int k (l:Int))))(hl:l<=n)(hn:n-l=n2)(h:OL P m ops K r (s.put dst (.xI id b sz l n2 (c-l)))):OL P m ops K (⟨dst,.slice t x (some lo) none none,ty,pos,after,none⟩:: r) s:=by subst hn;exact OL.pure (.aw2 hx hy hT hl) h
theorem bl9 {x lo:Operand}{t e sz eF id b o n c l o2 n2:Nat}{k:IntKind}(hT:bD P t e sz eF)(hx:s.ev x=.xI id b sz o n c)(hy:s.ev lo=.d (.sc (.int k (l:Int))))(hl:l<=n)(ho:o+l=o2)(hn:n-l=n2)(h:OL P m ops K r (s.put dst (.xI id b sz o2 n2 (c-l)))):OL P m ops K (⟨dst,.slice t x (some lo) none none,ty,pos,after,none⟩:: r) s:=by subst hn ho;exact OL.pure (.Xn hx hy hT hl) h
theorem bm0 {x y:Operand}{t e sz eF id b o l c n i:Nat}{k:IntKind}(hT:bD P t e sz eF)(hx:s.ev x=.xI id b sz o l c)(hy:s.ev y=.d (.sc (.int k (n:Int))))(hl:n<l)(hi:o+n=i)(h:OL P m ops K r (s.put dst (.pW id b sz i 0))):OL P m ops K (⟨dst,.indexAddr t x y,ty,pos,after,none⟩:: r) s:=by subst hi;exact OL.pure (.ixB hx hy hT hl) h
theorem lnB {t e sz eF id b o n c:Nat}{x:Operand}{ats:Array TypeId}(hT:bD P t e sz eF)(ha:ats = #[t])(hx:s.ev x=.xI id b sz o n c)(h:OL P m ops K r (s.put dst (.d (.sc (.int .i64 n))))):OL P m ops K (⟨dst,.call { callee:=.builtin .len,args:=#[x],argTypes:=ats },ty,pos,after,none⟩:: r) s:=OL.pure (.aw3 ha hx hT) h
theorem apB {t e sz eF b o n c d id:Nat}{u x:Operand}{es xs:List D}{ats:Array TypeId}(hT:bD P t e sz eF)(ha:ats = #[t,t])(hs:s.ev u=.xI id b sz o n c)(hM:s.M id=some (.row b (o+c) e sz es))(hn:o+n=es.length)(hx:VC (s.ev x) (.sl xs))(hsz:∀ y,y ∈ xs->y.cells.length=sz)
  (hb:(n+xs.length)*eF<=140737488355328) (hm:n+xs.length<=4611686018427387904) (hd:s.M d=none \/ d=id)
  (h:∀ b2 k,OL P m ops K r ⟨upd s.ρ d (.xI d b2 sz (if k % 2=0 then o else 0) (n+xs.length) (k / 2)),upd (upd s.M id (some jA)) d (some (.row b2 ((if k % 2=0 then o else 0)+k / 2) e sz ((if k % 2=0 then es else es.drop o)++xs)))⟩) :
  OL P m ops K (⟨some d,.call { callee:=.builtin .append,args:=#[u,x],argTypes:=ats },ty,pos,after,none⟩:: r) s:=OL.app (.ownB (.same hT ha) hs hM hn hx hT hsz hb hm) hd h
end
theorem Wj {L:List (Nat × List (Nat × List D))}{f g:Nat × List D->D}{k:Nat}(h:lC (L.map λr=>(r.1,r.2.map f)) k):lC (L.map λr=>(r.1,r.2.map g)) k:=by
 obtain⟨p,hp,h0,hk⟩:=h
 obtain⟨r,hr,rfl⟩:=mM hp
 exact⟨_,List.mem_map.2 ⟨r,hr,rfl⟩,by simpa using h0,hk⟩
theorem uG.heads {F:Hp}{w:World}{e:Nat}{L:List (Nat × List (Nat × List D))}(h:uG F w e 1 (L.map λr=>(r.1,r.2.map RY)))
  (hr:∀ r,r ∈ L->∀ q,q ∈ r.2->Rep F (.slice (some ⟨q.1,0,none⟩) q.2.length q.2.length) (.sl q.2)):uG F w e 1 (L.map λr=>(r.1,r.2.map λq=>.sl q.2)):=by
 refine⟨λi j p q hi hj h1 h2 he=>?_,λp hp=>?_⟩
 .rw[List.getElem?_map] at hi hj
  cases hx:L[i]? with
  | none=>rw[hx] at hi;cases hi
  | some x =>
   cases hy:L[j]? with
   | none=>rw[hy] at hj;cases hj
   | some y =>
    rw[hx] at hi;rw[hy] at hj
    cases hi;cases hj
    refine h.1 i j (x.1,x.2.map RY) (y.1,y.2.map RY) (by rw[List.getElem?_map,hx];rfl) (by rw[List.getElem?_map,hy];rfl) (by simpa using h1) (by simpa using h2) he
 .obtain⟨r,hL,rfl⟩:=mM hp
  have k:=h.2 (r.1,r.2.map RY) (List.mem_map.2 ⟨r,hL,rfl⟩)
  have k2:=lX.heads k (hr r hL)
  simp only[dJ] at k2 ⊢
  exact k2
section
variable {P:Program}{E:Env}{k:Code}{Q:Exit->S->Prop}{s:S}
theorem AW.TG (o p:Nat){e e2 sz:Nat}{L:List (Nat × List (Nat × List D))}{ps:List (Nat × List D)}(hO:s.M o=some (.pool e 1 (L.map λr=>(r.1,r.2.map RY))))(hp:s.M p=some (.pool e2 sz ps))
  (hin:∀ r,r ∈ L->∀ q,q ∈ r.2->q ∈ ps) (hne:o≠p)
  (h:AW P E k Q ⟨s.ρ,upd (upd s.M p none) o (some (.pool e 1 (L.map λr=>(r.1,r.2.map λq=>.sl q.2))))⟩):AW P E k Q s:=λF a w hr=>by
 obtain⟨F',h1,h2,h3,h4⟩:=Ed hr.gU hp
 refine h F' a w ?_
 have hO':(upd s.M p none) o=some (.pool e 1 (L.map λr=>(r.1,r.2.map RY))):=by rw[upd_ne _ _ hne];exact hO
 have any:∀ j blk,upd (upd s.M p none) o (some (.pool e 1 (L.map λr=>(r.1,r.2.map λq=>.sl q.2)))) j=some blk->vg F' w blk/\∃ bl,(upd s.M p none) j=some bl/\∀ k,blk.owns k->bl.owns k:=λj blk hj=>by
  unfold upd at hj
  split at hj
  .rename_i e;subst e;cases hj
   have ok:uG F' w _ 1 _:=h2.own _ _ hO'
   exact⟨ok.heads λr hr q hq=>h4 q (hin r hr q hq),_,hO',λk hk=>Wj hk⟩
  .have hj:(upd s.M p none) j=some blk:=hj
   exact⟨h2.own j blk hj,blk,hj,λk hk=>hk⟩
 have sub:∀ j bl,(upd s.M p none) j=some bl->s.M j=some bl:=λj bl hj=>by
  unfold upd at hj
  split at hj
  .cases hj
  .exact hj
 refine⟨⟨h2.rM,λj blk hj=>(any j blk hj).1,λj blk k hj ho=>?_,λi j bi bj k hi hj hoi hoj=>?_⟩,hr.grow,hr.f0.trans h1,λk p q=>?_,λj blk k hj ho=>?_,hr.size,hr.defers,λt=>(hr.slots t).mono h1⟩
 .obtain⟨bl,hb,hk⟩:=(any j blk hj).2
  exact h2.apart j bl k hb (hk k ho)
 .obtain⟨b1,hb1,k1⟩:=(any i bi hi).2
  obtain⟨b2,hb2,k2⟩:=(any j bj hj).2
  exact h2.inj i j b1 b2 k hb1 hb2 (k1 k hoi) (k2 k hoj)
 .cases hf:F k with
  | none =>
   obtain⟨i,bl,hi,ho⟩:=h3 k hf q
   exact hr.kM i bl k hi ho
  | some o=>exact hr.yc k p (by rw[hf];simp)
 .obtain⟨bl,hb,hk⟩:=(any j blk hj).2
  exact hr.kM j bl k (sub j bl hb) (hk k ho)
end
section
variable {P:Program}{m:Nat}{ops:Array Oper}{K:S->Prop}{s:S}{dst:Option Nat}{ty:Nat}{pos:String}{after:Array Edge}{r:List Oper}
theorem fdC {x:Operand}{t f off:Nat}{vs:List V}{v:V}(hT:Cf P t f off)(hx:s.ev x=.ag vs)(hv:vs[off]? = some v)(h:OL P m ops K r (s.put dst v)):OL P m ops K (⟨dst,.field t x f,ty,pos,after,none⟩:: r) s:=OL.pure (.aw6 hx hT hv) h
theorem stF {x y:Operand}{t id b z i j n c e:Nat}{es es2:List D}{d el el2:D}(hT:(P.info? t).map (·.size)=some n)(hx:s.ev x=.pW id b z i j)(hy:VD (s.ev y) d)(hM:s.M id=some (.row b c e z es))(hl:d.cells.length=n)(hel:es[i]? = some el)(hj:j+n<=z)(he:el2.cells=el.cells.take j++d.cells++el.cells.drop (j+n))(hc:es.set i el2=es2)
  (h:OL P m ops K r ⟨s.ρ,upd s.M id (some (.row b c e z es2))⟩):OL P m ops K (⟨none,.store t x y,ty,pos,after,none⟩:: r) s:=by subst hc;exact OL.store (.ax2 hx hy hM hT hl hel hj he) h
theorem evF {x:Operand}{f:Nat}{y:List V}(h:s.ev x=.fn f y):s.ev x=.fn f y:=h
