/-
  AL, part 20: loops and joints that keep what was known; a variable's cells read more loosely.
-/
import Derived.Test.YtnjoncgnjdkaoaaGreatDoorKAlgc
import Derived.Below
import Derived.Carry
import Derived.ChangeSlices
set_option linter.unusedVariables false
set_option linter.unusedSimpArgs false
namespace Go.AL
open Go Go.BigFrame
section
variable {P:Program}{E:Env}{c:Code}{Q:Exit->S->Prop}{s:S}
theorem Knows.app {a b:List (Nat × V)}(h:Knows s a)(k:Knows s b):Knows s (a++b):=by
 induction a with
 | nil=>exact k
 | cons p r ih=>exact⟨h.1,ih h.2⟩
theorem dw.app {a b:List (Nat × iE)}(h:dw s a)(k:dw s b):dw s (a++b):=by
 induction a with
 | nil=>exact k
 | cons p r ih=>exact⟨h.1,ih h.2⟩
theorem AW.aV {α:Type}(k0:List (Nat × V))(w0:List (Nat × iE))(K:α->List (Nat × V))(W:α->List (Nat × iE))(φ:α->Prop)(μ:α->Nat)(x0:α)(hk:Knows s k0)(hw:dw s w0)(h0:Head K W φ x0 s)
  (round:∀ x,φ x->AW P E c (Lh (λs'=>∃ x',μ x' < μ x/\Head (λy=>k0++K y) (λy=>w0++W y) φ x' s') Q) (st (k0++K x) (w0++W x))):AW P E (.loop c) Q s :=
 AW.while (λy=>k0++K y) (λy=>w0++W y) φ μ x0 ⟨h0.φ,hk.app h0.knows,hw.app h0.owns⟩ round
theorem AW.J7 {x y:Code}{α:Type}(k0:List (Nat × V))(w0:List (Nat × iE))(K:α->List (Nat × V))(W:α->List (Nat × iE))(φ:α->Prop)(hk:Knows s k0)(hw:dw s w0)
  (hx:AW P E x (Lh (λs'=>∃ a,Head (λy=>k0++K y) (λy=>w0++W y) φ a s') Q) s) (hy:∀ a,φ a->AW P E y Q (st (k0++K a) (w0++W a))):AW P E (.seq x y) Q s :=
 AW.mid (λy=>k0++K y) (λy=>w0++W y) φ hx hy
theorem bK {k:Nat}{y:D}(h:s.ρ k=.d y):bG (s.ρ k) (.d y):=au h
theorem knA {k:Nat}{y:List V}(h:s.ρ k=.ag y):bG (s.ρ k) (.ag y):=au h
theorem Ea {k:Nat}(h:s.ρ k=.mt):bG (s.ρ k) .mt:=au h
theorem yj {k id b n c:Nat}(h:s.ρ k=.bF id b n c):bG (s.ρ k) (.bF id b n c):=au h
theorem gB {k id b o:Nat}(h:s.ρ k=.ptr id b o):bG (s.ρ k) (.ptr id b o):=au h
theorem knE {k id b z i j:Nat}(h:s.ρ k=.pW id b z i j):bG (s.ρ k) (.pW id b z i j):=au h
theorem knR {k:Nat}{y:List D}(h:s.ρ k=.ref y):bG (s.ρ k) (.ref y):=au h
theorem LH {k f:Nat}{y:List V}(h:s.ρ k=.fn f y):bG (s.ρ k) (.fn f y):=au h
theorem knT {k:Nat}{y:List V}(h:s.ρ k=.jS y):bG (s.ρ k) (.jS y):=au h
theorem knJ {k:Nat}:bG (s.ρ k) .junk:=bG.junk _
theorem iR {k b t:Nat}{cells:List V}(h:s.M k=some (.box b t cells)):s.M k=some (.box b t cells):=h
theorem lg {k b c e sz:Nat}{es:List D}(h:s.M k=some (.row b c e sz es)):s.M k=some (.row b c e sz es):=h
theorem AW.xO (id:Nat){b t:Nat}{cells:List V}(cells2:List V)(hM:s.M id=some (.box b t cells))(hl:fH cells cells2)(h:AW P E c Q ⟨s.ρ,upd s.M id (some (.box b t cells2))⟩):AW P E c Q s:=λF a w hr=>by
 refine h F a w ?_;have key:∀ j blk,upd s.M id (some (.box b t cells2)) j=some blk->(j=id/\blk=.box b t cells2) \/ (j≠id/\s.M j=some blk):=λj blk hj=>by
  unfold upd at hj
  split at hj
  .rename_i e;cases hj;exact .inl ⟨e,rfl⟩
  .rename_i e;exact .inr ⟨e,hj⟩
 have any:∀ j blk k,upd s.M id (some (.box b t cells2)) j=some blk->blk.owns k->∃ bl,s.M j=some bl/\bl.owns k:=λj blk k hj hk=>by
  rcases key j blk hj with ⟨rfl,rfl⟩|⟨_,h⟩
  .exact⟨_,hM,hk⟩
  .exact⟨_,h,hk⟩
 refine⟨⟨hr.gU.rM,λj blk hj=>?_,λj blk k hj hk=>?_,λi j bi bj k hi hj ki kj=>?_⟩,hr.grow,hr.f0,hr.yc,λj blk k hj hk=>?_,hr.size,hr.defers,hr.slots⟩
 .rcases key j blk hj with ⟨rfl,rfl⟩|⟨_,h⟩
  .obtain⟨cs,h1,h2,h3,h4⟩:=hr.gU.own _ _ hM;refine⟨cs,h1,by rw[h2];exact hl.length,h3,λi v u hv hu=>?_⟩
   obtain⟨x,hx,hle⟩:=hl.get i v hv;exact hle _ _ (h4 i x u hx hu)
  .exact hr.gU.own _ _ h
 .obtain⟨bl,hb,ho⟩:=any j blk k hj hk;exact hr.gU.apart j bl k hb ho
 .obtain⟨b1,hb1,ho1⟩:=any i bi k hi ki;obtain⟨b2,hb2,ho2⟩:=any j bj k hj kj;exact hr.gU.inj i j b1 b2 k hb1 hb2 ho1 ho2
 .obtain⟨bl,hb,ho⟩:=any j blk k hj hk;exact hr.kM j bl k hb ho
end
section
variable {P:Program}{m:Nat}{ops:Array Oper}{K:S->Prop}{r:List Oper}{s:S}{dst:Option Nat}{ty:TypeId}{pos:String}{after:Array Edge}
theorem LJ {α:Type}{x y:Operand}{t e sz eF:Nat}{l:List α}{f:α->D}{k:IntKind}{n:Int}{cs:List D}(i:Nat)(hT:bD P t e sz eF)(d0:α)(hx:s.ev x=.d (.sl (l.map f)))(hy:s.ev y=.d (.sc (.int k n)))(hi:n=(i:Int))(hn:i<l.length)
  (hc:(f (l.getD i d0)).cells=cs) (hsz:cs.length=sz) (h:OL P m ops K r (s.put dst (.ref cs))):OL P m ops K (⟨dst,.indexAddr t x y,ty,pos,after,none⟩:: r) s:=by
 subst hi;refine ixL hT d0 hx hy (Int.natCast_nonneg i) (by omega) (cs:=cs) ?_ hsz h
 rw[Int.toNat_natCast];exact hc
theorem fO {α:Type}{x y:Operand}{t e sz eF:Nat}{l:List α}{f:α->D}{k:IntKind}{i:Nat}{cs:List D}(hT:bD P t e sz eF)(d0:α)(hx:s.ev x=.d (.sl (l.map f)))(hy:s.ev y=.d (.sc (.int k (i:Int))))(hn:i<l.length)
  (hc:(f (l.getD i d0)).cells=cs) (hsz:cs.length=sz) (h:OL P m ops K r (s.put dst (.ref cs))):OL P m ops K (⟨dst,.indexAddr t x y,ty,pos,after,none⟩:: r) s :=
 LJ i hT d0 hx hy rfl hn hc hsz h
end
theorem lY {a b:Int}(h:a=b):(!decide (a=b))=false:=by rw[decide_eq_true h];rfl
theorem FV {a b:Int}(h:a≠b):(!decide (a=b))=true:=by rw[decide_eq_false h];rfl
def mem1 (id:Nat)(blk:iE):Mem:=λj=>if j=id then some blk else none
theorem dh {id:Nat}{blk:iE}{M:Mem}(h:M id=some blk):∀ j b,mem1 id blk j=some b->M j=some b:=λj b hj=>by
 unfold mem1 at hj
 split at hj
 .rename_i e;subst e;cases hj;exact h
 .cases hj
theorem iT {id:Nat}{a b:iE}:∀ j,mem1 id a j=none ↔ mem1 id b j=none:=λj=>by
 unfold mem1
 split
 .constructor <;> intro h <;> cases h
 .exact Iff.rfl
theorem bG.ptr {id id2 b o:Nat}:bG (.ptr id b o) (.ptr id2 b o):=λF v h=>by cases h with|ptr=>exact .ptr
theorem af8 {a:Nat}(ha:a<4294967296):bin .and (.int .u32 (a:Int)) (.int .u32 1)=some (.int .u32 ((a % 2:Nat):Int)):=by
 show (if IntKind.u32=IntKind.u32 then some (Value.int .u32 (IntKind.u32.wrap ((BitVec.ofInt 32 (a:Int) &&& BitVec.ofInt 32 1).toNat:Int))) else none)=_
 rw[if_pos rfl,BitVec.toNat_and,BitVec.ofInt_natCast,BitVec.toNat_ofNat,show (BitVec.ofInt 32 1).toNat=1 from rfl,Nat.and_one_is_mod,wrap_u32 (by omega),Nat.mod_eq_of_lt ha]
theorem aO1 {a b:Nat}(ha:a<4294967296)(hb:b<4294967296):bin .or (.int .u32 (a:Int)) (.int .u32 (b:Int))=some (.int .u32 ((a ||| b:Nat):Int)):=by
 show (if IntKind.u32=IntKind.u32 then some (Value.int .u32 (IntKind.u32.wrap ((BitVec.ofInt 32 (a:Int) ||| BitVec.ofInt 32 (b:Int)).toNat:Int))) else none)=_
 have h:a ||| b<2 ^ 32:=Nat.or_lt_two_pow ha hb
 rw[if_pos rfl,BitVec.toNat_or,BitVec.ofInt_natCast,BitVec.ofInt_natCast,BitVec.toNat_ofNat,BitVec.toNat_ofNat,Nat.mod_eq_of_lt ha,Nat.mod_eq_of_lt hb];generalize a ||| b=c at h
 rw[wrap_u32 (by omega)]
theorem aO2 {a:Int}(m d:Nat)(h:a=(m:Int))(hm:m<=9223372036854775807)(hd:0<d):bin .quo (.int .i64 a) (.int .i64 (d:Int))=some (.int .i64 ((m / d:Nat):Int)):=by
 subst h;have h2:m / d<=m:=Nat.div_le_self ..;simp only[bin,true_and];rw[if_pos (by omega),<- Int.ofNat_tdiv,wrap_i64 ⟨by have:=Int.natCast_nonneg (m / d);omega,by generalize m / d=q at h2 ⊢;omega⟩]
theorem aZ8 {a:Int}(m d:Nat)(h:a=(m:Int))(hd:0<d):bin .rem (.int .i64 a) (.int .i64 (d:Int))=some (.int .i64 ((m % d:Nat):Int)):=by
 subst h;simp only[bin,true_and];rw[if_pos (by omega),<- Int.ofNat_tmod]
theorem aZ9 {a b:Int}(hb:b≠0):bin .rem (.int .i64 a) (.int .i64 b)=some (.int .i64 (a.tmod b)):=by
 simp only[bin,true_and];rw[if_pos hb]
section
variable {P:Program}{ops:Array Oper}{K:S->Prop}{r:List Oper}{s:S}{ty:TypeId}{pos:String}{after:Array Edge}
theorem mkF {m:Nat}{dst:Option Nat}{f:Nat}{caps:Array Operand}{vs:List V}(hv:caps.toList.map s.ev=vs)(h:OL P m ops K r (s.put dst (.fn f vs))):OL P m ops K (⟨dst,.makeFunc (.func f) #[] caps,ty,pos,after,none⟩:: r) s:=by
 subst hv;exact OL.pure .aw7 h
theorem slO {m:Nat}{dst:Option Nat}{x y:Operand}{t e sz eF id b n c h:Nat}{k:IntKind}(hT:bD P t e sz eF)(hx:s.ev x=.bF id b n c)(hy:s.ev y=.d (.sc (.int k (h:Int))))(hn:h<=n)
  (kk:OL P m ops K r (s.put dst (.bF id b h c))):OL P m ops K (⟨dst,.slice t x none (some y) none,ty,pos,after,none⟩:: r) s:=OL.pure (.aw1 hx hT ⟨k,hy⟩ hn) kk
theorem apZ {t tn e sz eF n d:Nat}{k:IntKind}{u x:Operand}{ats:Array TypeId}(hT:bD P t e sz eF)(htn:JY P tn k)(ha:ats = #[t,tn])(hs:s.ev u=.mt)(hx:s.ev x=.d (.sc (.int .i64 (n:Int))))(h0:0<n)(hb:n*eF<=140737488355328)(hm:n<=4611686018427387904)(hM:s.M d=none)
  (h:∀ b c,OL P 0 ops K r ⟨upd s.ρ d (.bF d b n c),upd s.M d (some (.row b c e sz []))⟩):OL P 0 ops K (⟨some d,.call { callee:=.builtin .append,args:=#[u,x],argTypes:=ats },ty,pos,after,none⟩:: r) s :=
 OL.new (.ax1 ha htn hs hx hT h0 hb hm) hM rfl h
theorem clR {f:Operand}{args:Array Operand}{ats:Array TypeId}{nR n e sz d:Nat}{caps pR:List V}{es:List D}(hf:s.ev f=.fn nR caps)(ha:fH (args.toList.map s.ev++caps) pR)(hs:jd P nR pR n e sz es)(hM:s.M d=none)
  (h:∀ b c,OL P 0 ops K r ⟨upd s.ρ d (.bF d b n c),upd s.M d (some (.row b c e sz es))⟩):OL P 0 ops K (⟨some d,.call { callee:=.value f,args:=args,argTypes:=ats },ty,pos,after,none⟩:: r) s :=
 OL.new (.Xr hf ha hs) hM rfl h
def PV (s:S):List (Nat × Operand)->List (Nat × V)->Prop
 | [],[]=>True
 | p::ps,q::qs=>(p.1=q.1/\s.ev p.2=q.2)/\PV s ps qs
 | _,_=>False
theorem PV.eq:∀ {ps:List (Nat × Operand)} {qs:List (Nat × V)},PV s ps qs->(ps.map λp=>(p.1,s.ev p.2))=qs
 | [],[],_=>rfl
 | p::ps,q::qs,h=>by rw[List.map_cons,PV.eq h.2,h.1.1,h.1.2]
 | [],_::_,h=>h.elim
 | _::_,[],h=>h.elim
theorem VW:PV s [] []:=trivial
theorem ve {i:Nat}{x:Operand}{v:V}{ps:List (Nat × Operand)}{qs:List (Nat × V)}(h:s.ev x=v)(t:PV s ps qs):PV s ((i,x)::ps) ((i,v)::qs):=⟨⟨rfl,h⟩,t⟩
theorem DV {x:Operand}{y:D}(h:s.ev x=.d y):s.ev x=.d y:=h
theorem evA {x:Operand}{y:List V}(h:s.ev x=.ag y):s.ev x=.ag y:=h
theorem evM {x:Operand}(h:s.ev x=.mt):s.ev x=.mt:=h
theorem VX {m:Nat}{dst:Option Nat}{t:Nat}{parts:Array (Nat × Operand)}{vals:List (Nat × V)}{zs cs:List V}{pl:List (Nat × Nat)}(hz:eU P t zs)(hp:kP P t pl)(hv:PV s parts.toList vals)(hf:KX pl zs vals=some cs)(h:OL P m ops K r (s.put dst (.ag cs))) :
  OL P m ops K (⟨dst,.build t parts,ty,pos,after,none⟩:: r) s:=OL.pure (.build hz hp (by rw[hv.eq];exact hf)) h
end
theorem VY {l:List Int}:∀ y,y ∈ l.map dI->y.cells.length=1:=λy hy=>by obtain⟨a,_,rfl⟩:=mM hy;rfl
section
variable {P:Program}{m:Nat}{ops:Array Oper}{K:S->Prop}{r:List Oper}{s:S}{dst:Option Nat}{ty:TypeId}{pos:String}{after:Array Edge}
def PD (s:S):List Operand->List D->Prop
 | [],[]=>True
 | x::xs,y::ys=>VD (s.ev x) y/\PD s xs ys
 | _,_=>False
theorem PD.get:∀ {xs:List Operand} {ys:List D},PD s xs ys->xs.length=ys.length/\∀ (i:Nat) (x:Operand) (y:D),xs[i]? = some x->ys[i]? = some y->VD (s.ev x) y
 | [],[],_=>⟨rfl,λi x y h _=>by simp at h⟩
 | x::xs,y::ys,h=>by
  obtain⟨h1,h2⟩:=PD.get h.2;refine⟨by simp[h1],λi a b ha hb=>?_⟩
  cases i with
  | zero=>simp at ha hb;subst ha hb;exact h.1
  | succ i=>exact h2 i a b (by simpa using ha) (by simpa using hb)
 | [],_::_,h=>h.elim
 | _::_,[],h=>h.elim
theorem pdN:PD s [] []:=trivial
theorem J8 {x:Operand}{y:D}{xs:List Operand}{ys:List D}(h:VD (s.ev x) y)(t:PD s xs ys):PD s (x::xs) (y::ys):=⟨h,t⟩
theorem ltN {t e sz eF len:Nat}{parts:Array (Nat × Operand)}{ys:List D}(hT:bD P t e sz eF)(hl:parts.toList.map Prod.fst=List.range len)(hx:PD s (parts.toList.map Prod.snd) ys)(hn:ys.length=len)(QG:len*sz<=16777216)(hpos:0<len)(hsz:∀ y,y ∈ ys->y.cells.length=sz)
  (h:OL P m ops K r (s.put dst (.d (.sl ys)))):OL P m ops K (⟨dst,.buildSlice t len parts,ty,pos,after,none⟩:: r) s:=by
 obtain⟨h1,h2⟩:=hx.get;refine OL.Tf (.YT hT hl hn QG hpos (λi p y hp hy=>h2 i p.2 y (by rw[List.getElem?_map,hp];rfl) hy) hsz) h
end
end Go.AL
namespace Go.AL
open Go Go.BigFrame Go.RowKit
def yx (w:World):Hp:=λk=>w.heap[k]?
theorem VZ (w:World):Hp.Sl (yx w) w:=λ_ _ h=>h
theorem JD (w:World)(a:Addr):DY (yx w) a=w.cell? a:=rfl
theorem af9 {P:Program}{f:Nat}{args:List V}{W:World}{vals:List Value}(h:aj P f args (.d (dB true)))(hv:kU (yx W) vals args) :
  Calls P f vals.toArray W λe w'=>e=.returned (.bool true)/\Below W.heap.size W w' :=
 (h.2 (yx W) W vals (VZ W) hv).mono λe w' ⟨v,F',he,hx,hs⟩ =>
  ⟨by rw[he,iL hs],⟨hx.grow.os,hx.grow.tape,hx.grow.output,hx.grow.size,λk hk=>hx.grow.block k hk λe=>e⟩⟩
theorem O1 {F:Hp}:kU F [] []:=⟨rfl,λi x u hx _=>by simp at hx⟩
theorem rq {F:Hp}{v:Value}{x:V}{vs:List Value}{xs:List V}(h:dm F v x)(t:kU F vs xs):kU F (v::vs) (x::xs):=by
 refine⟨by simp[t.1],λi c u hc hu=>?_⟩
 cases i with
 | zero=>simp at hc hu;subst hc hu;exact h
 | succ i=>exact t.2 i c u (by simpa using hc) (by simpa using hu)
theorem Hg {F:Hp}(k:IntKind)(n:Int):dm F (.int k n) (.d (.sc (.int k n))):=.d (.sc rfl) rfl
theorem O3 {F:Hp}(b:Bool):dm F (.bool b) (.d (dB b)):=.d (.sc rfl) rfl
theorem dm.one {F:Hp}{v:Value}{x:D}(h:dm F v (.d x)):v.oneCell' = true:=by cases h;assumption
def LK (w:World)(v:Value)(zs:List Int):Prop :=
 (v=.slice none 0 0/\zs=[]) \/ ∃ (x:Addr) (len cap:Nat) (ys:List Int),v=.slice (some x) len cap/\len<=cap/\cap<=maxLen/\len<=ys.length/\zs=ys.take len/\∀ i,i<ys.length->w.cell? (x.add i)=some (.int .i64 (ys.getD i 0))
theorem Y9 (l:List Int):(l.map dI).flatMap D.cells=l.map dI:=by
 induction l with
 | nil=>rfl
 | cons x l ih=>rw[List.map_cons,List.flatMap_cons,ih];rfl
theorem LK.gU {w:World}{v:Value}{zs:List Int}(h:LK w v zs):dm (yx w) v (.d (ints zs)):=by
 rcases h with ⟨rfl,rfl⟩|⟨x,len,cap,ys,rfl,hl,_,hy,rfl,hc⟩
 .exact .d Rep.nil_ rfl
 .have hlen:(ys.take len).length=len:=by rw[List.length_take];omega
  refine .d (.sl (sz:=1) (us:=λi=>.int .i64 (ys.getD i 0)) (by rw[dJ,hlen]) hl (λe he=>by obtain⟨z,_,rfl⟩:=mM he;rfl) (λi hi=>⟨x,rfl,?_⟩) (λi _=>rfl) λi d hd=>?_) rfl
  .rw[JD];exact hc i (by omega)
  .rw[Y9,List.getElem?_map] at hd;cases hg:(ys.take len)[i]? with
   | none=>rw[hg] at hd;cases hd
   | some z =>
    rw[hg] at hd;cases hd
    have:ys.getD i 0=z:=by
     rw[List.getElem?_take] at hg
     split at hg
     .rw[ig,hg];rfl
     .cases hg
    simp only[this];exact .sc rfl
theorem LK.len {w:World}{v:Value}{zs:List Int}(h:LK w v zs):zs.length<=9223372036854775807:=by
 rcases h with ⟨_,rfl⟩|⟨x,len,cap,ys,_,hl,hm,hy,rfl,_⟩
 .simp
 .rw[List.length_take];unfold maxLen at hm;omega
theorem Za {P:Program}{H:Type}{enc:TypeId × Value->H}{w:World}{base fuel:Nat}{spare:Nat->Bool}{held:Bool}{t e:TypeId}{v:Value}{x:DataW H × List MemPlace}(ht:P.underlying t=some (.slice e))(he:P.underlying e=some (.int .i64))(hc:P.cellsOf e=1)
  (h:DataW.trod enc P w base spare held fuel t [v]=some x):∃ zs,LK w v zs:=by
 rcases ChangeShapes.open_ints ht he hc h with ⟨hcs,_⟩|⟨a,len,cap,zs,hcs,_,hl,hm,hz,_,hcell,_⟩
 .simp at hcs;exact⟨[],.inl ⟨hcs,rfl⟩⟩
 .simp at hcs;refine⟨zs.take len,.inr ⟨a,len,cap,zs,hcs,hl,hm,?_,rfl,hcell⟩⟩;rw[hz];split <;> omega
theorem Tm {P:Program}{H:Type}{enc:TypeId × Value->H}{w:World}{base fuel:Nat}{spare:Nat->Bool}{held:Bool}{t:TypeId}{v:Value}{x:DataW H × List MemPlace}(ht:P.underlying t=some (.int .i64))
  (h:DataW.trod enc P w base spare held fuel t [v]=some x):∃ n,v=.int .i64 n:=by
 obtain⟨n,h1,_⟩:=DataW.trod_int ht h;simp at h1;exact⟨n,h1⟩
