/-
  AL, part 31: regions whose order is open, with a memory that is told layer by layer.
-/
import Derived.Test.YtnjoncgnjdkaoaaGreatDoorKAlg29
set_option linter.unusedVariables false
set_option linter.unusedSimpArgs false
namespace Go.AL
open Go Go.BigFrame
section
variable {P:Program}{E:Env}{s0:S}{St:(Nat->Nat × Nat)->Array Bool->S}
theorem TB {Q:Exit->S->Prop}{ops:Array Oper}{last:Nat}(hd:∀ o,o ∈ ops.toList->oV E.n o.dst)(hsz:ops.size=last+1)(Tc:∀ i o,ops[i]? = some o->∀ e,e ∈ o.after.toList->Region.binds .any e=true->e.on<i)
  (hall:∀ L,LU ops L last->∀ j,j<last->L.getD j false=true)
  (hob:∀ i,i<last->∀ β L,LU ops L i->∃ o,ops[i]? = some o/\SG P E ops o (λs'=>∃ β',s' = St β' (L.setIfInBounds i true)) (St β L))
  (hfin:∀ β L,LU ops L last->∃ o,ops[last]? = some o/\SG P E ops o (Q .normal) (St β L)) :
  ∀ (fuel:Nat) (listed:Array Bool) (β:Nat->Nat × Nat) (F:Hp) (a:Act) (w:World),listed.size=ops.size->((List.range ops.size).filter λi=>!listed.getD i true).length=fuel->listed.getD last false=false ->
   (∀ k j,listed.getD k false=true->J9 ops k j=true->listed.getD j false=true)->Run E F (St β listed) a w->wpAny P .any ops (Jv E Q) fuel listed a w:=by
 have ag8:∀ i o,ops[i]? = some o->∀ j,J9 ops i j=true->∃ e,e ∈ o.after.toList/\Region.binds .any e=true/\e.on=j:=λi o ho j h=>by
  unfold J9 at h;rw[ho] at h;obtain⟨e,he,h2⟩:=List.any_eq_true.1 h;rw[Bool.and_eq_true] at h2;exact⟨e,he,h2.1,by simpa using h2.2⟩
 have bi0:∀ i o,ops[i]? = some o->∀ e,e ∈ o.after.toList->Region.binds .any e=true->J9 ops i e.on=true:=λi o ho e he hb=>by
  unfold J9;rw[ho];exact List.any_eq_true.2 ⟨e,he,by rw[hb];simp⟩
 have mem_ready:∀ (listed:Array Bool) (i:Nat),i ∈ Region.ready .any ops listed ↔ i<ops.size/\listed.getD i true=false/\∃ o,ops[i]? = some o/\∀ e,e ∈ o.after.toList->Region.binds .any e=true->listed.getD e.on false=true:=λlisted i=>by
  unfold Region.ready;rw[List.mem_filter,List.mem_range];constructor
  .rintro⟨h1,h2⟩
   rw[Bool.and_eq_true] at h2;refine⟨h1,by simpa using h2.1,?_⟩
   have ho:ops[i]? = some ops[i]:=Array.getElem?_eq_getElem h1;refine⟨_,ho,λe he hb=>?_⟩;have h3:=h2.2;rw[ho] at h3;simp only[Option.map_some,Option.getD_some] at h3;rw[<- Array.all_toList,List.all_eq_true] at h3;have:=h3 e he;rw[hb] at this;simpa using this
  .rintro⟨h1,h2,o,ho,h3⟩
   refine⟨h1,?_⟩;rw[Bool.and_eq_true];refine⟨by simp[h2],?_⟩
   rw[ho];simp only[Option.map_some,Option.getD_some];rw[<- Array.all_toList,List.all_eq_true];intro e he;cases hb:Region.binds .any e with
   | false=>rfl
   | true=>simpa using h3 e he hb
 have tf:∀ (listed:Array Bool) k,k<listed.size->listed.getD k false=listed.getD k true:=λlisted k hk=>by simp[Array.getD,hk]
 have bu1:∀ (listed:Array Bool) k,listed.getD k false=true->k<listed.size:=λlisted k h=>by
  rcases Nat.lt_or_ge k listed.size with h1|h1
  .exact h1
  .simp[Array.getD,Nat.not_lt.2 h1] at h
 intro fuel
 induction fuel with
 | zero =>
  intro listed β F a w hL hlen hlast _ _
  exfalso
  have hm:last ∈ (List.range ops.size).filter λi=>!listed.getD i true:=List.mem_filter.2 ⟨List.mem_range.2 (by omega),by rw[<- tf listed last (by omega),hlast];rfl⟩
  rw[IK hlen] at hm;simp at hm
 | succ fuel ih =>
  intro listed β F a w hL hlen hlast hcl hr;have F9:∀ i,i<ops.size->listed.getD i true=false->∃ j,j ∈ Region.ready .any ops listed:=by
   intro i
   induction i using Nat.strongRecOn with
   | _ i ihi =>
    intro hi hli;have ho:ops[i]? = some ops[i]:=Array.getElem?_eq_getElem hi;by_cases hx:∃ e,e ∈ ops[i].after.toList/\Region.binds .any e=true/\listed.getD e.on false=false
    .obtain⟨e,he,hb,hl⟩:=hx;have hei:=Tc i _ ho e he hb;exact ihi e.on hei (by omega) (by rw[<- tf listed e.on (by omega)];exact hl)
    .refine⟨i,(mem_ready listed i).2 ⟨hi,hli,_,ho,λe he hb=>?_⟩⟩;cases hl:listed.getD e.on false with
     | true=>rfl
     | false=>exact absurd ⟨e,he,hb,hl⟩ hx
  refine⟨λhnil=>?_,λi hi=>?_⟩
  .exfalso
   obtain⟨j,hj⟩:=F9 last (by omega) (by rw[<- tf listed last (by omega)];exact hlast)
   rw[hnil] at hj;simp at hj
  .obtain⟨hin,hli,o,ho,ax9⟩:=(mem_ready listed i).1 hi;have bl5:listed.getD i false=false:=by rw[tf listed i (by omega)];exact hli
   have ad5:∀ j,J9 ops i j=true->listed.getD j false=true:=λj hj=>by
    obtain⟨e,he,hb,rfl⟩:=ag8 i o ho j hj;exact ax9 e he hb
   have XT:LU ops listed i:=⟨hL,bl5,ad5,hcl⟩;have hdo:oV E.n o.dst:=hd o (by
    obtain⟨h1,h2⟩:=Array.getElem?_eq_some_iff.1 ho;rw[<- h2];exact Array.getElem_mem_toList h1)
   have hset:∀ j,(listed.setIfInBounds i true).getD j true=if j=i then true else listed.getD j true:=λj=>by
    simp only[Array.getD_eq_getD_getElem?,Array.getElem?_setIfInBounds];by_cases hji:i=j
    .subst hji;simp[show i<listed.size by omega]
    .simp[hji,Ne.symm hji]
   by_cases hil:i=last
   .subst hil;obtain⟨o',ho',hog⟩:=hfin β listed XT;rw[ho] at ho';cases ho'
    have hone:fuel=0:=by
     have hsub:∀ x,x ∈ (List.range ops.size).filter (λi=>!listed.getD i true)->x=i:=λx hx=>by
      obtain⟨h1,h2⟩:=List.mem_filter.1 hx;have h1:=List.mem_range.1 h1;rcases Nat.lt_or_ge x i with h3|h3
      .have:=hall listed XT x h3;rw[tf listed x (by omega)] at this
       rw[this] at h2;simp at h2
      .omega
     have hnd:((List.range ops.size).filter λi=>!listed.getD i true).Nodup:=List.nodup_range.filter _;rcases hq:(List.range ops.size).filter λi=>!listed.getD i true with _|⟨x,_|⟨y,r⟩⟩
     .rw[hq] at hlen;simp at hlen
     .rw[hq] at hlen;simp at hlen;omega
     .rw[hq] at hsub hnd;have e1:=hsub x (by simp)
      have e2:=hsub y (by simp)
      rw[e1,e2] at hnd;simp at hnd
    subst hone;refine SG.sound ho hog hr hdo λF' s' a' w' hr' hk=>?_;refine⟨List.eq_nil_iff_forall_not_mem.2 λj hj=>?_,⟨F',s',hr',hk⟩⟩;obtain⟨h1,h2,_⟩:=(mem_ready _ j).1 hj;rw[hset] at h2;by_cases hji:j=i
    .rw[if_pos hji] at h2;cases h2
    .rw[if_neg hji] at h2;have:=hall listed XT j (by omega)
     rw[tf listed j (by omega)] at this
     rw[this] at h2;cases h2
   .obtain⟨o',ho',hog⟩:=hob i (by omega) β listed XT
    rw[ho] at ho';cases ho'
    refine SG.sound ho hog hr hdo λF' s' a' w' hr' ⟨β',hk⟩=>?_;subst hk;refine ih _ β' F' a' w' (by simpa using hL) ?_ ?_ ?_ hr'
    .have e1:((List.range ops.size).filter λj=>!(listed.setIfInBounds i true).getD j true)=((List.range ops.size).filter λj=>!listed.getD j true).filter λj=>decide (j≠i):=by
      rw[List.filter_filter];apply List.filter_congr;intro j _;rw[hset];by_cases hji:j=i <;> simp[hji]
     have hnd:((List.range ops.size).filter λi=>!listed.getD i true).Nodup:=List.nodup_range.filter _;have hmem:i ∈ (List.range ops.size).filter λi=>!listed.getD i true:=List.mem_filter.2 ⟨List.mem_range.2 hin,by simp[hli]⟩
     rw[e1];obtain⟨pre,post,hsp⟩:=List.append_of_mem hmem;rw[hsp] at hlen hnd ⊢;have hn2:∀ x,x ∈ pre \/ x ∈ post->x≠i:=λx hx e=>by
      subst e;rw[List.nodup_append] at hnd;obtain⟨_,n2,n3⟩:=hnd;rcases hx with hx|hx
      .exact n3 x hx x uZ rfl
      .exact (List.nodup_cons.1 n2).1 hx
     rw[List.filter_append,List.filter_cons];have f1:pre.filter (λj=>decide (j≠i))=pre:=List.filter_eq_self.2 λx hx=>by simpa using hn2 x (.inl hx)
     have f2:post.filter (λj=>decide (j≠i))=post:=List.filter_eq_self.2 λx hx=>by simpa using hn2 x (.inr hx)
     rw[f1,f2];simp at hlen ⊢;omega
    .rw[rC (by omega),if_neg (λe=>hil e.symm)];exact hlast
    .intro k j hk hj;rw[rC (by omega)] at hk ⊢
     by_cases hji:j=i
     .rw[if_pos hji]
     .rw[if_neg hji];by_cases hki:k=i
      .subst hki;exact ad5 j hj
      .rw[if_neg hki] at hk;exact hcl k j hk hj
end
def pG (s0:S)(val:Nat->(Nat->Nat × Nat)->V)(own:Nat->Option Nat)(mf:(Nat->Nat × Nat)->Array Bool->Mem)(β:Nat->Nat × Nat)(L:Array Bool):S:=⟨(pS s0 val (λ_ _=>none) own β L).ρ,mf β L⟩
section
variable {s0:S}{val:Nat->(Nat->Nat × Nat)->V}{own:Nat->Option Nat}{mf:(Nat->Nat × Nat)->Array Bool->Mem}{β:Nat->Nat × Nat}{L:Array Bool}
theorem bV {t:Nat}(h:own t=none):(pG s0 val own mf β L).ρ t=s0.ρ t:=LV (blk:=λ_ _=>none) h
theorem bI {t i:Nat}(h:own t=some i)(hi:L.getD i false=true):(pG s0 val own mf β L).ρ t=val t β:=QY (blk:=λ_ _=>none) h hi
theorem fP {t:Nat}{v:Option iE}(h:mf β L t=v):(pG s0 val own mf β L).M t=v:=h
theorem az7 (hL:∀ i,L.getD i false=false)(hm:mf β L=s0.M):pG s0 val own mf β L=s0:=by
 have e:=az6 (s0:=s0) (val:=val) (blk:=λ_ _=>none) (own:=own) (β:=β) hL;unfold pG;rw[e,hm]
theorem di {d i:Nat}(h:own d=some i)(hu:∀ t,own t=some i->t=d)(hi:i<L.size)(hm:mf β (L.setIfInBounds i true)=mf β L):(pG s0 val own mf β L).put (some d) (val d β)=pG s0 val own mf β (L.setIfInBounds i true):=by
 have e:=Wi (s0:=s0) (val:=val) (own:=own) (L:=L) (blk:=λ_ _=>none) (β:=β) h hu hi rfl;unfold pG;rw[<- e,hm];rfl
theorem CP {d i:Nat}{x:Nat × Nat}{v:V}{M':Mem}(h:own d=some i)(hu:∀ t,own t=some i->t=d)(hi:i<L.size)(hv:val d (upd β d x)=v)(hm:mf (upd β d x) (L.setIfInBounds i true)=M')(hs:∀ t j,own t=some j->L.getD j false=true->val t (upd β d x)=val t β) :
  (⟨upd (pG s0 val own mf β L).ρ d v,M'⟩:S)=pG s0 val own mf (upd β d x) (L.setIfInBounds i true):=by
 have e:=Wi (s0:=s0) (val:=val) (blk:=λ_ _=>none) (own:=own) (β:=upd β d x) (L:=L) h hu hi rfl;unfold pG;rw[<- e,hm,hv];have e2:(pS s0 val (λ_ _=>none) own β L).ρ=(pS s0 val (λ_ _=>none) own (upd β d x) L).ρ:=funext λt=>by
  cases ho:own t with
  | none=>rw[LV ho,LV ho]
  | some j =>
   cases hj:L.getD j false with
   | true=>rw[QY ho hj,QY ho hj,hs t j ho hj]
   | false=>simp only[pS,ho,hj];rw[if_neg (by decide),if_neg (by decide)]
 rw[e2];rfl
end
section
variable {P:Program}{E:Env}{K:S->Prop}{s:S}{pos:String}{after:Array Edge}{ty:Nat}
theorem SL.nil {ops:Array Oper}(h:K s):SL P E ops K [] s:=h
theorem AW.dead {k:Code}{Q:Exit->S->Prop}(id:Nat)(hM:s.M id=none)(h:AW P E k Q ⟨s.ρ,upd s.M id (some jA)⟩):AW P E k Q s:=λF a w hr=>by
 have e:upd s.M id none=s.M:=by funext j;unfold upd;split;rename_i e2;rw[e2,hM];rfl
 exact h F a w (Run.aO9 (s:=s) (by rw[e];exact hr))
theorem SO.aP0 {t id o b n c e sz bo co eo i:Nat}{x y:Operand}{es eso:List D}(hx:s.ev x=.pW o bo 1 i 0)(hy:s.ev y=.bF id b n c)(hM:s.M id=some (.row b c e sz es))(hO:s.M o=some (.row bo co eo 1 eso))(hT:(P.info? t).map (·.size)=some 1)(hi:i<eso.length)(h0:0<es.length)
  (h:0<c->K ⟨s.ρ,upd s.M o (some (.row bo co eo 1 (eso.set i (OE b n c))))⟩):SO P E ⟨none,.store t x y,ty,pos,after,none⟩ K s:=λF a w hr=>by
 have hc:0<c:=by
  have:=(hr.gU.own id _ hM:lX F w b c e sz es).1;omega
 refine SO.a08 (o:=⟨none,.store t x y,ty,pos,after,none⟩) (E:=E) (K:=K) (s:=s) trivial ?_ F a w hr;exact .inr (.inr (.inr (.inr (.inl ⟨rfl,_,.row hx (by rw[hy];exact XM hc) hO hT rfl hi,h hc⟩))))
end
structure Ko where
 id:Nat
 op:Nat
 b:(Nat->Nat × Nat)->iE
def CQ:List Ko->Mem->(Nat->Nat × Nat)->Array Bool->Mem
 | [],M0,_,_=>M0
 | x::r,M0,β,L=>if L.getD x.op false=true then upd (CQ r M0 β L) x.id (some (x.b β)) else CQ r M0 β L
section
variable {x:Ko}{r ts:List Ko}{M0:Mem}{β β':Nat->Nat × Nat}{L:Array Bool}{i d t:Nat}
theorem TD (hL:∀ i,L.getD i false=false):∀ ts,CQ ts M0 β L=M0
 | []=>rfl
 | x::r=>by rw[CQ,hL,if_neg (by decide),TD hL r]
theorem ak (h:t≠x.id){v:Option iE}(hr:CQ r M0 β L t=v):CQ (x::r) M0 β L t=v:=by
 rw[CQ]
 split
 .rw[upd_ne _ _ h];exact hr
 .exact hr
theorem nX (h:L.getD x.op false=false){v:Option iE}(hr:CQ r M0 β L t=v):CQ (x::r) M0 β L t=v:=by
 rw[CQ,h,if_neg (by decide)];exact hr
theorem uo {b:iE}(h:L.getD x.op false=true)(hb:x.b β=b)(ht:t=x.id):CQ (x::r) M0 β L t=some b:=by
 subst ht;rw[CQ,h,if_pos rfl,upd_same,hb]
theorem aZ (hi:i<L.size):∀ {ts:List Ko},(ts.all λx=>x.op != i)=true->CQ ts M0 β (L.setIfInBounds i true)=CQ ts M0 β L
 | [],_=>rfl
 | x::r,h=>by
  rw[List.all_cons,Bool.and_eq_true] at h;have h1:x.op≠i:=by simpa using h.1
  rw[CQ,CQ,aZ hi h.2,rC hi,if_neg h1]
theorem TF (hi:i<L.size):∀ {ts:List Ko},(ts.all λx=>x.op != i)=true->(∀ y,y ∈ ts->L.getD y.op false=true->y.id≠d->y.b β' = y.b β)->∀ t,t≠d->CQ ts M0 β' (L.setIfInBounds i true) t=CQ ts M0 β L t
 | [],_,_,t,_=>rfl
 | x :: r, h, hs, t, ht => by
  rw[List.all_cons,Bool.and_eq_true] at h;have h1:x.op≠i:=by simpa using h.1
  have ih:=TF hi h.2 (λy hy=>hs y (List.mem_cons_of_mem _ hy)) t ht;rw[CQ,CQ,rC hi,if_neg h1];by_cases hf:L.getD x.op false=true
  .rw[if_pos hf,if_pos hf];by_cases hx:t=x.id
   .subst hx;rw[upd_same,upd_same,hs x uZ hf ht]
   .rw[upd_ne _ _ hx,upd_ne _ _ hx,ih]
  .rw[if_neg hf,if_neg hf,ih]
theorem o6 {b:iE}(hi:i<L.size)(hx:x.op=i)(hd:x.id=d)(hb:x.b β' = b)(hn:L.getD i false=false)(h:(r.all λx=>x.op != i)=true)
  (hs:∀ y,y ∈ r->L.getD y.op false=true->y.id≠d->y.b β' = y.b β):CQ (x::r) M0 β' (L.setIfInBounds i true)=upd (CQ (x::r) M0 β L) d (some b):=by
 subst hx hd;rw[CQ,CQ,rC hi,if_pos rfl,if_pos rfl,hn,if_neg (by decide),hb]
 funext t;by_cases ht:t=x.id
 .subst ht;rw[upd_same,upd_same]
 .rw[upd_ne _ _ ht,upd_ne _ _ ht,TF hi h hs t ht]
theorem lH {b:iE}(hi:i<L.size)(hx:x.op≠i)(hd:x.id≠d \/ L.getD x.op false=false)(hb:L.getD x.op false=true->x.b β' = x.b β)(hr:CQ r M0 β' (L.setIfInBounds i true)=upd (CQ r M0 β L) d (some b)) :
  CQ (x::r) M0 β' (L.setIfInBounds i true)=upd (CQ (x::r) M0 β L) d (some b):=by
 rw[CQ,CQ,rC hi,if_neg hx];by_cases hf:L.getD x.op false=true
 .rw[if_pos hf,if_pos hf,hr,hb hf];have hne:x.id≠d:=hd.resolve_right λe=>by rw[e] at hf;cases hf
  funext t;by_cases h1:t=x.id
  .subst h1;rw[upd_same,upd_ne _ _ hne,upd_same]
  .rw[upd_ne _ _ h1];by_cases h2:t=d
   .subst h2;rw[upd_same,upd_same]
   .rw[upd_ne _ _ h2,upd_ne _ _ h2,upd_ne _ _ h1]
 .rw[if_neg hf,if_neg hf,hr]
end
section
variable {s:S}{d t:Nat}{v:V}
theorem gV (h:t≠d){w:V}(hs:s.ρ t=w):(s.put (some d) v).ρ t=w:=by
 show upd s.ρ d v t=w
 rw[upd_ne _ _ h];exact hs
theorem LX:(s.put (some d) v).ρ d=v:=upd_same _ _ _
theorem put_mem {w:Option iE}(hs:s.M t=w):(s.put (some d) v).M t=w:=hs
theorem jC {M':Mem}{w:V}(h:s.ρ t=w):(⟨s.ρ,M'⟩:S).ρ t=w:=h
theorem XU {ρ':Nat->V}{M:Mem}{w:Option iE}:(⟨ρ',upd M d w⟩:S).M d=w:=upd_same _ _ _
theorem pY {ρ':Nat->V}{M:Mem}{w u:Option iE}(h:t≠d)(hs:M t=u):(⟨ρ',upd M d w⟩:S).M t=u:=by
 show upd M d w t=u
 rw[upd_ne _ _ h];exact hs
end
def LY (ops:Array Oper):Nat->List Nat->List Nat
 | 0,S=>S
 | i+1,S=>LY ops i (if S.contains i then S++(List.range i).filter (J9 ops i) else S)
theorem JE {ops:Array Oper}{L:Array Bool}{last:Nat}(c:LU ops L last):∀ (n:Nat) (S:List Nat),(∀ j,j ∈ S->L.getD j false=true)->∀ j,j ∈ LY ops n S->L.getD j false=true
 | 0,S,h,j,hj=>h j hj
 | i + 1, S, h, j, hj => by
  rw[LY] at hj;refine JE c i _ (λk hk=>?_) j hj
  split at hk
  .rename_i hi;rcases ul hk with hk|hk
   .exact h k hk
   .exact c.closed i k (h i (List.contains_iff_mem.1 hi)) (List.mem_filter.1 hk).2
  .exact h k hk
def lastB (ops:Array Oper)(last:Nat):Bool:=(List.range last).all λj=>(LY ops last ((List.range last).filter (J9 ops last))).contains j
theorem O5 {ops:Array Oper}{L:Array Bool}{last:Nat}(c:LU ops L last)(h:lastB ops last=true):∀ j,j<last->L.getD j false=true:=λj hj=>by
 have h1:=List.all_eq_true.1 h j (List.mem_range.2 hj);exact JE c last _ (λk hk=>c.dep k (List.mem_filter.1 hk).2) j (List.contains_iff_mem.1 h1)
theorem AW.rU {P:Program}{E:Env}{s0:S}{id:Nat}{ops:Array Oper}{Q:Exit->S->Prop}(val:Nat->(Nat->Nat × Nat)->V)(own:Nat->Option Nat)(ts:List Ko)(last:Nat)(hf:P.follows .mixedOrders=true)(hd:xM E.n ops=true)
  (hsz:ops.size=last+1) (he:yw ops (List.range ops.size)=true) (hall:lastB ops last=true)
  (hob:∀ i,i<last->∀ β L,LU ops L i->∃ o,ops[i]? = some o/\SG P E ops o (λs'=>∃ β',s' = pG s0 val own (CQ ts s0.M) β' (L.setIfInBounds i true)) (pG s0 val own (CQ ts s0.M) β L))
  (hfin:∀ β L,LU ops L last->(∀ j,j<last->L.getD j false=true)->∃ o,ops[last]? = some o/\SG P E ops o (Q .normal) (pG s0 val own (CQ ts s0.M) β L)):AW P E (.region id ops true) Q s0:=λF a w hr=>by
 have hnone:∀ i,(Array.replicate ops.size false).getD i false=false:=λi=>by
  simp only[Array.getD_eq_getD_getElem?,Array.getElem?_replicate]
  split <;> rfl
 have h0:pG s0 val own (CQ ts s0.M) (λ_=>(0,0)) (Array.replicate ops.size false)=s0:=az7 hnone (TD hnone _);have hrun:Run E F s0 a { w with drawn:=w.drawn+1 }:=⟨⟨hr.gU.rM,λid blk hm=>(hr.gU.own id blk hm).keep (Hp.le.refl F) λ_ _=>rfl,hr.gU.apart,hr.gU.inj⟩,⟨hr.grow.os,hr.grow.tape,hr.grow.output,hr.grow.size,hr.grow.block⟩,hr.f0,hr.yc,hr.kM,hr.size,hr.defers,hr.slots⟩
 refine wp_region_any hf (TB (St:=λβ L=>pG s0 val own (CQ ts s0.M) β L) (xM.spec hd) hsz (λi o ho=>yw.spec _ he i o (List.mem_range.2 (Array.getElem?_eq_some_iff.1 ho).1) ho)
  (λL c j hj=>O5 c hall j hj) hob (λβ L c=>hfin β L c (O5 c hall)) ops.size _ (λ_=>(0,0)) F a _ (by simp) ?_ (hnone last) (λk j hk=>by rw[hnone] at hk;cases hk) (by rw[h0];exact hrun))
 have:((List.range ops.size).filter λi=>!(Array.replicate ops.size false).getD i true)=List.range ops.size:=List.filter_eq_self.2 λx hx=>by
  have hx:=List.mem_range.1 hx;simp[Array.getD,hx]
 rw[this,List.length_range]
def ag9 (ops:Array Oper)(k j:Nat):Bool:=(LY ops k ((List.range k).filter (J9 ops k))).contains j
theorem Ef {ops:Array Oper}{L:Array Bool}(hc:∀ k j,L.getD k false=true->J9 ops k j=true->L.getD j false=true):∀ (n:Nat) (S:List Nat),(∀ j,j ∈ S->L.getD j false=true)->∀ j,j ∈ LY ops n S->L.getD j false=true
 | 0,S,h,j,hj=>h j hj
 | i + 1, S, h, j, hj => by
  rw[LY] at hj;refine Ef hc i _ (λk hk=>?_) j hj
  split at hk
  .rename_i hi;rcases ul hk with hk|hk
   .exact h k hk
   .exact hc i k (h i (List.contains_iff_mem.1 hi)) (List.mem_filter.1 hk).2
  .exact h k hk
theorem gW {ops:Array Oper}{L:Array Bool}{i k:Nat}(c:LU ops L i)(h:ag9 ops k i=true):L.getD k false=false:=by
 cases e:L.getD k false with
 | false=>rfl
 | true =>
  have:=Ef c.closed k _ (λj hj=>c.closed k j e (List.mem_filter.1 hj).2) i (List.contains_iff_mem.1 h);rw[c.no] at this;cases this
theorem rV {ops:Array Oper}{L:Array Bool}{i k:Nat}{p:Prop}(c:LU ops L i)(h:ag9 ops k i=true)(e:L.getD k false=true):p:=by
 rw[gW c h] at e;cases e
theorem aQ {ops:Array Oper}{L:Array Bool}{i j:Nat}(c:LU ops L i)(h:ag9 ops i j=true):L.getD j false=true :=
 Ef c.closed i _ (λk hk=>c.dep k (List.mem_filter.1 hk).2) j (List.contains_iff_mem.1 h)
