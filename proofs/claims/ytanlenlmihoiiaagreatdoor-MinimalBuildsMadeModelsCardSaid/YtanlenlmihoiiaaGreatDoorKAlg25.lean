/-
  AL, part 25: a region whose order is open, by all of its orders.
-/
import Derived.Below
import Derived.Carry
import Derived.ChangeSlices
import Derived.Test.YtanlenlmihoiiaaGreatDoorKNuma
set_option linter.unusedVariables false
set_option linter.unusedSimpArgs false
namespace Go.AL
open Go Go.BigFrame
section
variable {P:Program}{E:Env}{c:Code}{Q:Exit->S->Prop}{s:S}
theorem Knows.app {a b:List (Nat × V)}(h:Knows s a)(k:Knows s b):Knows s (a++b):=by
 induction a with
 | nil=>exact k
 | cons p r ih=>exact⟨h.1,ih h.2⟩
theorem dL.app {a b:List (Nat × iF)}(h:dL s a)(k:dL s b):dL s (a++b):=by
 induction a with
 | nil=>exact k
 | cons p r ih=>exact⟨h.1,ih h.2⟩
theorem AW.aY {α:Type}(k0:List (Nat × V))(w0:List (Nat × iF))(K:α->List (Nat × V))(W:α->List (Nat × iF))(φ:α->Prop)(μ:α->Nat)(x0:α)(hk:Knows s k0)(hw:dL s w0)(h0:Head K W φ x0 s)
  (round:∀ x,φ x->AW P E c (Oj (λs'=>∃ x',μ x' < μ x/\Head (λy=>k0++K y) (λy=>w0++W y) φ x' s') Q) (st (k0++K x) (w0++W x))):AW P E (.loop c) Q s :=
 AW.while (λy=>k0++K y) (λy=>w0++W y) φ μ x0 ⟨h0.φ,hk.app h0.knows,hw.app h0.owns⟩ round
theorem AW.YC {x y:Code}{α:Type}(k0:List (Nat × V))(w0:List (Nat × iF))(K:α->List (Nat × V))(W:α->List (Nat × iF))(φ:α->Prop)(hk:Knows s k0)(hw:dL s w0)
  (hx:AW P E x (Oj (λs'=>∃ a,Head (λy=>k0++K y) (λy=>w0++W y) φ a s') Q) s) (hy:∀ a,φ a->AW P E y Q (st (k0++K a) (w0++W a))):AW P E (.seq x y) Q s :=
 AW.mid (λy=>k0++K y) (λy=>w0++W y) φ hx hy
theorem di {k:Nat}{y:D}(h:s.ρ k=.d y):bW (s.ρ k) (.d y):=au h
theorem xK {k:Nat}(h:s.ρ k=.mt):bW (s.ρ k) .mt:=au h
theorem zA {k id b n c:Nat}(h:s.ρ k=.bI id b n c):bW (s.ρ k) (.bI id b n c):=au h
theorem iw {k id b o:Nat}(h:s.ρ k=.ptr id b o):bW (s.ρ k) (.ptr id b o):=au h
theorem knR {k:Nat}{y:List D}(h:s.ρ k=.ref y):bW (s.ρ k) (.ref y):=au h
theorem KF {k f:Nat}{y:List V}(h:s.ρ k=.fn f y):bW (s.ρ k) (.fn f y):=au h
theorem knJ {k:Nat}:bW (s.ρ k) .junk:=bW.junk _
theorem je {k b t:Nat}{cells:List V}(h:s.M k=some (.box b t cells)):s.M k=some (.box b t cells):=h
theorem qZ {k b c e sz:Nat}{es:List D}(h:s.M k=some (.row b c e sz es)):s.M k=some (.row b c e sz es):=h
theorem AW.oZ (id:Nat){b t:Nat}{cells:List V}(cells2:List V)(hM:s.M id=some (.box b t cells))(hl:fK cells cells2)(h:AW P E c Q ⟨s.ρ,upd s.M id (some (.box b t cells2))⟩):AW P E c Q s:=λF a w hr=>by
 refine h F a w ?_;have key:∀ j blk,upd s.M id (some (.box b t cells2)) j=some blk->(j=id/\blk=.box b t cells2) \/ (j≠id/\s.M j=some blk):=λj blk hj=>by
  unfold upd at hj
  split at hj
  .rename_i e;cases hj;exact .inl ⟨e,rfl⟩
  .rename_i e;exact .inr ⟨e,hj⟩
 have any:∀ j blk k,upd s.M id (some (.box b t cells2)) j=some blk->blk.owns k->∃ bl,s.M j=some bl/\bl.owns k:=λj blk k hj hk=>by
  rcases key j blk hj with ⟨rfl,rfl⟩|⟨_,h⟩
  .exact⟨_,hM,hk⟩
  .exact⟨_,h,hk⟩
 refine⟨⟨hr.gX.sF,λj blk hj=>?_,λj blk k hj hk=>?_,λi j bi bj k hi hj ki kj=>?_⟩,hr.grow,hr.f0,hr.yK,λj blk k hj hk=>?_,hr.size,hr.defers,hr.slots⟩
 .rcases key j blk hj with ⟨rfl,rfl⟩|⟨_,h⟩
  .obtain⟨cs,h1,h2,h3,h4⟩:=hr.gX.own _ _ hM;refine⟨cs,h1,by rw[h2];exact hl.length,h3,λi v u hv hu=>?_⟩
   obtain⟨x,hx,hle⟩:=hl.get i v hv;exact hle _ _ (h4 i x u hx hu)
  .exact hr.gX.own _ _ h
 .obtain⟨bl,hb,ho⟩:=any j blk k hj hk;exact hr.gX.apart j bl k hb ho
 .obtain⟨b1,hb1,ho1⟩:=any i bi k hi ki;obtain⟨b2,hb2,ho2⟩:=any j bj k hj kj;exact hr.gX.inj i j b1 b2 k hb1 hb2 ho1 ho2
 .obtain⟨bl,hb,ho⟩:=any j blk k hj hk;exact hr.jZ j bl k hb ho
end
section
variable {P:Program}{m:Nat}{ops:Array Oper}{K:S->Prop}{r:List Oper}{s:S}{dst:Option Nat}{ty:TypeId}{pos:String}{after:Array Edge}
theorem Ux {α:Type}{x y:Operand}{t e sz eH:Nat}{l:List α}{f:α->D}{k:IntKind}{n:Int}{cs:List D}(i:Nat)(hT:bJ P t e sz eH)(d0:α)(hx:s.ev x=.d (.sl (l.map f)))(hy:s.ev y=.d (.sc (.int k n)))(hi:n=(i:Int))(hn:i<l.length)
  (hc:(f (l.getD i d0)).cells=cs) (hsz:cs.length=sz) (h:OL P m ops K r (s.put dst (.ref cs))):OL P m ops K (⟨dst,.indexAddr t x y,ty,pos,after,none⟩:: r) s:=by
 subst hi;refine ixL hT d0 hx hy (Int.natCast_nonneg i) (by omega) (cs:=cs) ?_ hsz h
 rw[Int.toNat_natCast];exact hc
theorem dR {α:Type}{x y:Operand}{t e sz eH:Nat}{l:List α}{f:α->D}{k:IntKind}{i:Nat}{cs:List D}(hT:bJ P t e sz eH)(d0:α)(hx:s.ev x=.d (.sl (l.map f)))(hy:s.ev y=.d (.sc (.int k (i:Int))))(hn:i<l.length)
  (hc:(f (l.getD i d0)).cells=cs) (hsz:cs.length=sz) (h:OL P m ops K r (s.put dst (.ref cs))):OL P m ops K (⟨dst,.indexAddr t x y,ty,pos,after,none⟩:: r) s :=
 Ux i hT d0 hx hy rfl hn hc hsz h
end
theorem kY {a b:Int}(h:a=b):(!decide (a=b))=false:=by rw[decide_eq_true h];rfl
theorem Jk {a b:Int}(h:a≠b):(!decide (a=b))=true:=by rw[decide_eq_false h];rfl
def mem1 (id:Nat)(blk:iF):Mem:=λj=>if j=id then some blk else none
theorem fP {id:Nat}{blk:iF}{M:Mem}(h:M id=some blk):∀ j b,mem1 id blk j=some b->M j=some b:=λj b hj=>by
 unfold mem1 at hj
 split at hj
 .rename_i e;subst e;cases hj;exact h
 .cases hj
theorem yN {id:Nat}{a b:iF}:∀ j,mem1 id a j=none ↔ mem1 id b j=none:=λj=>by
 unfold mem1
 split
 .constructor <;> intro h <;> cases h
 .exact Iff.rfl
theorem AW.row0 {P:Program}{E:Env}{c:Code}{Q:Exit->S->Prop}{s:S}(id e sz:Nat)(hM:s.M id=none)(h:AW P E c Q ⟨s.ρ,upd s.M id (some (.row 0 0 e sz []))⟩):AW P E c Q s:=λF a w hr=>by
 refine h F a w ⟨I9 hr.gX id e sz,hr.grow,hr.f0,hr.yK,λj blk k hm ho=>?_,hr.size,hr.defers,hr.slots⟩;simp only[upd] at hm
 split at hm
 .cases hm;obtain⟨h,_⟩:=ho;omega
 .exact hr.jZ j blk k hm ho
theorem bW.ptr {id id2 b o:Nat}:bW (.ptr id b o) (.ptr id2 b o):=λF v h=>by cases h with|ptr=>exact .ptr
theorem av8 {a:Nat}(ha:a<4294967296):bin .and (.int .u32 (a:Int)) (.int .u32 1)=some (.int .u32 ((a % 2:Nat):Int)):=by
 show (if IntKind.u32=IntKind.u32 then some (Value.int .u32 (IntKind.u32.wrap ((BitVec.ofInt 32 (a:Int) &&& BitVec.ofInt 32 1).toNat:Int))) else none)=_
 rw[if_pos rfl,BitVec.toNat_and,BitVec.ofInt_natCast,BitVec.toNat_ofNat,show (BitVec.ofInt 32 1).toNat=1 from rfl,Nat.and_one_is_mod,wrap_u32 (by omega),Nat.mod_eq_of_lt ha]
theorem ba5 {a b:Nat}(ha:a<4294967296)(hb:b<4294967296):bin .or (.int .u32 (a:Int)) (.int .u32 (b:Int))=some (.int .u32 ((a ||| b:Nat):Int)):=by
 show (if IntKind.u32=IntKind.u32 then some (Value.int .u32 (IntKind.u32.wrap ((BitVec.ofInt 32 (a:Int) ||| BitVec.ofInt 32 (b:Int)).toNat:Int))) else none)=_
 have h:a ||| b<2 ^ 32:=Nat.or_lt_two_pow ha hb
 rw[if_pos rfl,BitVec.toNat_or,BitVec.ofInt_natCast,BitVec.ofInt_natCast,BitVec.toNat_ofNat,BitVec.toNat_ofNat,Nat.mod_eq_of_lt ha,Nat.mod_eq_of_lt hb];generalize a ||| b=c at h
 rw[wrap_u32 (by omega)]
theorem bl3 {a:Int}(m d:Nat)(h:a=(m:Int))(hm:m<=9223372036854775807)(hd:0<d):bin .quo (.int .i64 a) (.int .i64 (d:Int))=some (.int .i64 ((m / d:Nat):Int)):=by
 subst h;have h2:m / d<=m:=Nat.div_le_self ..;simp only[bin,true_and];rw[if_pos (by omega),<- Int.ofNat_tdiv,wrap_i64 ⟨by have:=Int.natCast_nonneg (m / d);omega,by generalize m / d=q at h2 ⊢;omega⟩]
theorem bl4 {a:Int}(m d:Nat)(h:a=(m:Int))(hd:0<d):bin .rem (.int .i64 a) (.int .i64 (d:Int))=some (.int .i64 ((m % d:Nat):Int)):=by
 subst h;simp only[bin,true_and];rw[if_pos (by omega),<- Int.ofNat_tmod]
theorem bl5 {a b:Int}(hb:b≠0):bin .rem (.int .i64 a) (.int .i64 b)=some (.int .i64 (a.tmod b)):=by
 simp only[bin,true_and];rw[if_pos hb]
section
variable {P:Program}{ops:Array Oper}{K:S->Prop}{r:List Oper}{s:S}{ty:TypeId}{pos:String}{after:Array Edge}
theorem mkF {m:Nat}{dst:Option Nat}{f:Nat}{caps:Array Operand}{vs:List V}(hv:caps.toList.map s.ev=vs)(h:OL P m ops K r (s.put dst (.fn f vs))):OL P m ops K (⟨dst,.makeFunc (.func f) #[] caps,ty,pos,after,none⟩:: r) s:=by
 subst hv;exact OL.pure .aK6 h
theorem slO {m:Nat}{dst:Option Nat}{x y:Operand}{t e sz eH id b n c h:Nat}{k:IntKind}(hT:bJ P t e sz eH)(hx:s.ev x=.bI id b n c)(hy:s.ev y=.d (.sc (.int k (h:Int))))(hn:h<=n)
  (kk:OL P m ops K r (s.put dst (.bI id b h c))):OL P m ops K (⟨dst,.slice t x none (some y) none,ty,pos,after,none⟩:: r) s:=OL.pure (.aK1 hx hT ⟨k,hy⟩ hn) kk
theorem clR {f:Operand}{args:Array Operand}{ats:Array TypeId}{mO n e sz d:Nat}{caps qY:List V}{es:List D}(hf:s.ev f=.fn mO caps)(ha:fK (args.toList.map s.ev++caps) qY)(hs:kU P mO qY n e sz es)(hM:s.M d=none)
  (h:∀ b c,OL P 0 ops K r ⟨upd s.ρ d (.bI d b n c),upd s.M d (some (.row b c e sz es))⟩):OL P 0 ops K (⟨some d,.call { callee:=.value f,args:=args,argTypes:=ats },ty,pos,after,none⟩:: r) s :=
 OL.new (.ZK hf ha hs) hM rfl h
def PV (s:S):List (Nat × Operand)->List (Nat × V)->Prop
 | [],[]=>True
 | p::ps,q::qs=>(p.1=q.1/\s.ev p.2=q.2)/\PV s ps qs
 | _,_=>False
theorem PV.eq:∀ {ps:List (Nat × Operand)} {qs:List (Nat × V)},PV s ps qs->(ps.map λp=>(p.1,s.ev p.2))=qs
 | [],[],_=>rfl
 | p::ps,q::qs,h=>by rw[List.map_cons,PV.eq h.2,h.1.1,h.1.2]
 | [],_::_,h=>h.elim
 | _::_,[],h=>h.elim
theorem LZ:PV s [] []:=trivial
theorem lI {i:Nat}{x:Operand}{v:V}{ps:List (Nat × Operand)}{qs:List (Nat × V)}(h:s.ev x=v)(t:PV s ps qs):PV s ((i,x)::ps) ((i,v)::qs):=⟨⟨rfl,h⟩,t⟩
theorem uG {x:Operand}{y:D}(h:s.ev x=.d y):s.ev x=.d y:=h
theorem X5 {x:Operand}{y:List V}(h:s.ev x=.ag y):s.ev x=.ag y:=h
theorem evM {x:Operand}(h:s.ev x=.mt):s.ev x=.mt:=h
theorem evO {x:Operand}{id b n c:Nat}(h:s.ev x=.bI id b n c):s.ev x=.bI id b n c:=h
theorem L6 {m:Nat}{dst:Option Nat}{t:Nat}{parts:Array (Nat × Operand)}{vals:List (Nat × V)}{zs cs:List V}{pl:List (Nat × Nat)}(hz:fE P t zs)(hp:mZ P t pl)(hv:PV s parts.toList vals)(hf:Oa pl zs vals=some cs)(h:OL P m ops K r (s.put dst (.ag cs))) :
  OL P m ops K (⟨dst,.build t parts,ty,pos,after,none⟩:: r) s:=OL.pure (.build hz hp (by rw[hv.eq];exact hf)) h
end
theorem ba6 {l:List Int}:∀ y,y ∈ l.map dI->y.cells.length=1:=λy hy=>by obtain⟨a,_,rfl⟩:=kK hy;rfl
section
variable {P:Program}{m:Nat}{ops:Array Oper}{K:S->Prop}{r:List Oper}{s:S}{dst:Option Nat}{ty:TypeId}{pos:String}{after:Array Edge}
def PD (s:S):List Operand->List D->Prop
 | [],[]=>True
 | x::xs,y::ys=>VD (s.ev x) y/\PD s xs ys
 | _,_=>False
theorem PD.get:∀ {xs:List Operand} {ys:List D},PD s xs ys->xs.length=ys.length/\∀ (i:Nat) (x:Operand) (y:D),xs[i]? = some x->ys[i]? = some y->VD (s.ev x) y
 | [],[],_=>⟨rfl,λi x y h _=>by simp at h⟩
 | x::xs,y::ys,h=>by
  obtain⟨h1,h2⟩:=PD.get h.2;refine⟨by simp[h1],λi a b ha hb=>?_⟩
  cases i with
  | zero=>simp at ha hb;subst ha hb;exact h.1
  | succ i=>exact h2 i a b (by simpa using ha) (by simpa using hb)
 | [],_::_,h=>h.elim
 | _::_,[],h=>h.elim
theorem pdN:PD s [] []:=trivial
theorem pdC {x:Operand}{y:D}{xs:List Operand}{ys:List D}(h:VD (s.ev x) y)(t:PD s xs ys):PD s (x::xs) (y::ys):=⟨h,t⟩
theorem ltN {t e sz eH len:Nat}{parts:Array (Nat × Operand)}{ys:List D}(hT:bJ P t e sz eH)(hl:parts.toList.map Prod.fst=List.range len)(hx:PD s (parts.toList.map Prod.snd) ys)(hn:ys.length=len)(X3:len*sz<=16777216)(hpos:0<len)(hsz:∀ y,y ∈ ys->y.cells.length=sz)
  (h:OL P m ops K r (s.put dst (.d (.sl ys)))):OL P m ops K (⟨dst,.buildSlice t len parts,ty,pos,after,none⟩:: r) s:=by
 obtain⟨h1,h2⟩:=hx.get;refine OL.Ou (.Yb hT hl hn X3 hpos (λi p y hp hy=>h2 i p.2 y (by rw[List.getElem?_map,hp];rfl) hy) hsz) h
end
end Go.AL
namespace Go.AL
open Go Go.BigFrame Go.RowKit
def zB (w:World):Hp:=λk=>w.heap[k]?
theorem YD (w:World):Hp.Vs (zB w) w:=λ_ _ h=>h
theorem L8 (w:World)(a:Addr):FD (zB w) a=w.cell? a:=rfl
theorem av9 {P:Program}{f:Nat}{args:List V}{W:World}{vals:List Value}(h:ai P f args (.d (dB true)))(hv:lG (zB W) vals args) :
  Calls P f vals.toArray W λe w'=>e=.returned (.bool true)/\Below W.heap.size W w' :=
 (h.2 (zB W) W vals (YD W) hv).mono λe w' ⟨v,F',he,hx,hs⟩ =>
  ⟨by rw[he,iJ hs],⟨hx.grow.os,hx.grow.tape,hx.grow.output,hx.grow.size,λk hk=>hx.grow.block k hk λe=>e⟩⟩
theorem Ry {F:Hp}:lG F [] []:=⟨rfl,λi x u hx _=>by simp at hx⟩
theorem xM {F:Hp}{v:Value}{x:V}{vs:List Value}{xs:List V}(h:dF F v x)(t:lG F vs xs):lG F (v::vs) (x::xs):=by
 refine⟨by simp[t.1],λi c u hc hu=>?_⟩
 cases i with
 | zero=>simp at hc hu;subst hc hu;exact h
 | succ i=>exact t.2 i c u (by simpa using hc) (by simpa using hu)
theorem aw0 {F:Hp}(k:IntKind)(n:Int):dF F (.int k n) (.d (.sc (.int k n))):=.d (.sc rfl) rfl
theorem ai5 {F:Hp}(b:Bool):dF F (.bool b) (.d (dB b)):=.d (.sc rfl) rfl
theorem dF.one {F:Hp}{v:Value}{x:D}(h:dF F v (.d x)):v.oneCell' = true:=by cases h;assumption
def OD (w:World)(v:Value)(zs:List Int):Prop :=
 (v=.slice none 0 0/\zs=[]) \/ ∃ (x:Addr) (len cap:Nat) (ys:List Int),v=.slice (some x) len cap/\len<=cap/\cap<=maxLen/\len<=ys.length/\zs=ys.take len/\∀ i,i<ys.length->w.cell? (x.add i)=some (.int .i64 (ys.getD i 0))
theorem ai6 (l:List Int):(l.map dI).flatMap D.cells=l.map dI:=by
 induction l with
 | nil=>rfl
 | cons x l ih=>rw[List.map_cons,List.flatMap_cons,ih];rfl
theorem OD.gX {w:World}{v:Value}{zs:List Int}(h:OD w v zs):dF (zB w) v (.d (ints zs)):=by
 rcases h with ⟨rfl,rfl⟩|⟨x,len,cap,ys,rfl,hl,_,hy,rfl,hc⟩
 .exact .d Rep.nil_ rfl
 .have hlen:(ys.take len).length=len:=by rw[List.length_take];omega
  refine .d (.sl (sz:=1) (us:=λi=>.int .i64 (ys.getD i 0)) (by rw[dA,hlen]) hl (λe he=>by obtain⟨z,_,rfl⟩:=kK he;rfl) (λi hi=>⟨x,rfl,?_⟩) (λi _=>rfl) λi d hd=>?_) rfl
  .rw[L8];exact hc i (by omega)
  .rw[ai6,List.getElem?_map] at hd;cases hg:(ys.take len)[i]? with
   | none=>rw[hg] at hd;cases hd
   | some z =>
    rw[hg] at hd;cases hd
    have:ys.getD i 0=z:=by
     rw[List.getElem?_take] at hg
     split at hg
     .rw[jh,hg];rfl
     .cases hg
    simp only[this];exact .sc rfl
theorem OD.len {w:World}{v:Value}{zs:List Int}(h:OD w v zs):zs.length<=9223372036854775807:=by
 rcases h with ⟨_,rfl⟩|⟨x,len,cap,ys,_,hl,hm,hy,rfl,_⟩
 .simp
 .rw[List.length_take];unfold maxLen at hm;omega
theorem KG {P:Program}{H:Type}{enc:TypeId × Value->H}{w:World}{base fuel:Nat}{spare:Nat->Bool}{held:Bool}{t e:TypeId}{v:Value}{x:DataW H × List MemPlace}(ht:P.underlying t=some (.slice e))(he:P.underlying e=some (.int .i64))(hc:P.cellsOf e=1)
  (h:DataW.trod enc P w base spare held fuel t [v]=some x):∃ zs,OD w v zs:=by
 rcases ChangeShapes.open_ints ht he hc h with ⟨hcs,_⟩|⟨a,len,cap,zs,hcs,_,hl,hm,hz,_,hcell,_⟩
 .simp at hcs;exact⟨[],.inl ⟨hcs,rfl⟩⟩
 .simp at hcs;refine⟨zs.take len,.inr ⟨a,len,cap,zs,hcs,hl,hm,?_,rfl,hcell⟩⟩;rw[hz];split <;> omega
theorem aw1 {P:Program}{H:Type}{enc:TypeId × Value->H}{w:World}{base fuel:Nat}{spare:Nat->Bool}{held:Bool}{t:TypeId}{v:Value}{x:DataW H × List MemPlace}(ht:P.underlying t=some (.int .i64))
  (h:DataW.trod enc P w base spare held fuel t [v]=some x):∃ n,v=.int .i64 n:=by
 obtain⟨n,h1,_⟩:=DataW.trod_int ht h;simp at h1;exact⟨n,h1⟩
end Go.AL
namespace Go.AL
open Go Go.BigFrame
abbrev vQ (q:Rat):V:=uF (fZ q)
abbrev dQ (q:Rat):D:=bz0 (fZ q)
abbrev dJ (l:List Rat):D:=.sl (l.map dQ)
abbrev qg (l:List (List Rat)):D:=.sl (l.map dJ)
theorem Z9:vQ 0=.ag [.d (dB false),.d (aH []),.d (aH [])]:=by unfold vQ;rw[rO]
theorem bl7 {neg:Bool}{n d:Nat}(hn:n≠0)(hd:d≠0):vQ (fr neg n d)=.ag [.d (dB neg),.d (aH (lim (n / Nat.gcd n d))),.d (aH (if d / Nat.gcd n d=1 then [] else lim (d / Nat.gcd n d)))]:=by unfold vQ;rw[Ut hn hd]
theorem ba7 {r:Raw}(h:fZ r.q=r):vQ r.q=.ag [.d (dB r.neg),.d (aH r.num),.d (aH r.den)]:=by unfold vQ;rw[h]
theorem aw2:bW (.ag [.d (dB false),.mt,.mt]) (vQ 0):=by
 unfold vQ;rw[rO];exact bW.ag (.cons vR (.cons bW.mt (.cons bW.mt .nil)))
theorem Dj:VCs [.d (dB false),.mt,.mt] (dQ 0).cells:=by
 unfold dQ;rw[rO];exact .cons (VC.d _) (.cons VC.mt (.cons VC.mt .nil))
def Small (B:Nat)(l:List Rat):Prop:=∀ q,q ∈ l->sz q<=B
theorem Small.get {B:Nat}{l:List Rat}(h:Small B l)(hB:1<=B)(i:Nat):sz (l.getD i 0)<=B:=by
 rw[jh];cases hg:l[i]? with
 | none=>rw[Option.getD_none,fH];exact hB
 | some q=>exact h q (List.mem_of_getElem? hg)
theorem Small.nil {B:Nat}:Small B []:=λ_ h=>by simp at h
theorem Small.app {B:Nat}{l m:List Rat}(h:Small B l)(k:Small B m):Small B (l++m):=λq hq=>(uy hq).elim (h q) (k q)
theorem Small.one {B:Nat}{q:Rat}(h:sz q<=B):Small B [q]:=λx hx=>by rw[jJ hx];exact h
theorem Small.cons {B:Nat}{q:Rat}{l:List Rat}(h:sz q<=B)(k:Small B l):Small B (q::l):=λx hx=>by
 rcases List.mem_cons.1 hx with rfl|hx
 .exact h
 .exact k x hx
theorem Small.take {B:Nat}{l:List Rat}(h:Small B l)(i:Nat):Small B (l.take i):=λq hq=>h q (List.mem_of_mem_take hq)
theorem Small.mono {B C:Nat}{l:List Rat}(h:Small B l)(hB:B<=C):Small C l:=λq hq=>Nat.le_trans (h q hq) hB
section
variable {P:Program}{m:Nat}{ops:Array Oper}{K:S->Prop}{r:List Oper}{s:S}{dst:Option Nat}{ty:TypeId}{pos:String}{after:Array Edge}{op:Op}
theorem bH {f:Operand}{args:Array Operand}{ats:Array TypeId}{mO:Nat}{caps qY:List V}{res:V}(hf:s.ev f=.fn mO caps)(ha:fK (args.toList.map s.ev++caps) qY)(hs:ai P mO qY res)(h:OL P m ops K r (s.put dst res)) :
  OL P m ops K (⟨dst,.call { callee:=.value f,args:=args,argTypes:=ats },ty,pos,after,none⟩:: r) s:=cl hs hf ha h
end
structure HM where
 sym:Nat
 st:Nat
 empty:Rat
 ini:List Rat
 trans:List (List Rat)
 stop:List Rat
 emit:List (List Rat)
 silent:List Bool
 ties:List Int
abbrev HM.cells (h:HM):List D:=[dI h.sym,dI h.st,dB (fZ h.empty).neg,aH (fZ h.empty).num,aH (fZ h.empty).den,dJ h.ini,qg h.trans,dJ h.stop,qg h.emit,bools h.silent,ints h.ties]
structure HM.aa0 (b B:Nat) (h:HM):Prop where
 Jl:1<=h.sym
 bz2:h.sym<=32
 st0:1<=h.st
 st1:h.st<=12
 ini:h.ini.length=h.st
 trans:h.trans.length=h.st
 bz3:∀ i,i<h.st->(h.trans.getD i []).length=h.st
 stop:h.stop.length=h.st
 emit:h.emit.length=h.st
 bz4:∀ i,i<h.st->(h.emit.getD i []).length=h.sym
 silent:h.silent=List.replicate h.st false
 ties:h.ties.length=h.st
 tie:∀ i,i<h.st->0<=h.ties.getD i 0/\h.ties.getD i 0<h.st
 b1:1<=B
 bB:B<=b
 zE:sz h.empty<=B
 zI:Small B h.ini
 zS:Small B h.stop
 zT:∀ i,Small B (h.trans.getD i [])
 zM:∀ i,Small B (h.emit.getD i [])
def aw3 (l:List Rat):Rat:=l.foldl (· + ·) 0
def VQ (q:Rat):Prop:=0<=q/\q<=1
instance (q:Rat):Decidable (VQ q):=inferInstanceAs (Decidable (_/\_))
def FN (l:List Rat):Prop:=∀ q,q ∈ l->VQ q
structure HM.Rz (b B:Nat) (h:HM):Prop where
 form:HM.aa0 b B h
 pE:VQ h.empty
 pI:FN h.ini
 pS:FN h.stop
 pT:∀ i,FN (h.trans.getD i [])
 pM:∀ i,FN (h.emit.getD i [])
 sI:aw3 (h.ini++[h.empty])=1
 sT:∀ i,i<h.st->aw3 (h.trans.getD i []++[h.stop.getD i 0])=1
 sM:∀ i,i<h.st->aw3 (h.emit.getD i [])=1
 tied:∀ i j,i<h.st->j<i->h.ties.getD i 0=h.ties.getD j 0->h.emit.getD i []=h.emit.getD j []
abbrev HM.Good (B:Nat)(h:HM):Prop:=HM.Rz 1024 B h
abbrev HM.bl8 (B:Nat)(h:HM):Prop:=HM.Rz 1048576 B h
theorem HM.aa0.up {b c B:Nat}{h:HM}(f:HM.aa0 b B h)(k:b<=c):HM.aa0 c B h:=⟨f.Jl,f.bz2,f.st0,f.st1,f.ini,f.trans,f.bz3,f.stop,f.emit,f.bz4,f.silent,f.ties,f.tie,f.b1,Nat.le_trans f.bB k,f.zE,f.zI,f.zS,f.zT,f.zM⟩
theorem HM.Rz.up {b c B:Nat}{h:HM}(g:HM.Rz b B h)(k:b<=c):HM.Rz c B h:=⟨g.form.up k,g.pE,g.pI,g.pS,g.pT,g.pM,g.sI,g.sT,g.sM,g.tied⟩
theorem HM.Rz.w {B:Nat}{h:HM}(g:h.Good B):h.bl8 B:=g.up (by decide)
theorem FN.get {l:List Rat}(h:FN l)(i:Nat):VQ (l.getD i 0):=by
 rw[jh];cases hg:l[i]? with
 | none=>rw[Option.getD_none];exact⟨by decide,by decide⟩
 | some q=>exact h q (List.mem_of_getElem? hg)
def VR (v:Int):Int:=if v<0 then -1 else if 0<v then 1 else 0
theorem aM7 {a b:Nat}(h:(lim a).length≠(lim b).length):VR (((lim a).length:Int)-((lim b).length:Int))=Fv a b:=by
 unfold VR Fv;rcases Nat.lt_or_ge (lim a).length (lim b).length with hl|hl
 .have:a<b:=by
   rcases Nat.lt_or_ge a b with h1|h1
   .exact h1
   .have:=uo h1;omega
  rw[if_pos (by omega),if_pos this]
 .have:¬ a<b:=λe=>by have:=uo (Nat.le_of_lt e);omega
  have h2:a≠b:=λe=>h (by rw[e])
  rw[if_neg (by omega),if_pos (by omega),if_neg this,if_neg h2]
theorem aM8 {a b:Nat}{x y:Nat}(h:Fv a b=if x<y then -1 else 1)(hne:x≠y):VR ((x:Int)-(y:Int))=Fv a b:=by
 rw[h];unfold VR
 split <;> split <;> (try split) <;> omega
theorem ai7 {o k s x y:Nat}(hk:0<k)(hx:x<k)(hy:y<k)(h:o+k*4294967296*s=x+y):o=x+y:=by
 rcases Nat.eq_zero_or_pos s with hs|hs
 .subst hs;rw[Nat.mul_zero] at h;exact h
 .have:=Nat.le_mul_of_pos_right (k*4294967296) hs;generalize k*4294967296*s=m at h this;omega
theorem aw4 {A C out:List Nat}{s i:Nat}(hA:jr A)(hC:jr C)(hi:i=max A.length C.length+1)(hl:out.length=i)(h:val out+Bp i*s=val (A.take i)+val (C.take i)):val out=val A+val C:=by
 rw[uD (A:=A) (by omega),uD (A:=C) (by omega)] at h
 have h1:=AP hA;have h2:=AP hC;have h3:Bp A.length<=Bp (max A.length C.length):=Nat.pow_le_pow_right (by decide) (by omega)
 have h4:Bp C.length<=Bp (max A.length C.length):=Nat.pow_le_pow_right (by decide) (by omega)
 rw[hi,lg] at h;exact ai7 (xH _) (Nat.lt_of_lt_of_le h1 h3) (Nat.lt_of_lt_of_le h2 h4) h
theorem aM9 {A C out:List Nat}{i s:Nat}(hA:jr A)(hi:i+C.length<out.length)(h0:out.getD (i+C.length) 0=0)
  (h:val out+s*Bp (i+C.length)=val (A.take i)*val C+A.getD i 0*Bp i*val (C.take C.length)):val (out.set (i+C.length) s)=val (A.take (i+1))*val C:=by
 have h1:=Un hi s;rw[h0,Nat.zero_mul,Nat.add_zero] at h1;rw[h1];rw[h,List.take_length,fO hA,Nat.add_mul,Nat.mul_comm (Bp i)]
theorem aw5 {out:List Nat}{i k y:Nat}(h:∀ j,k<=j->out.getD j 0=0)(hi:i<k):∀ j,k<=j->(out.set i y).getD j 0=0:=λj hj=>by
 rw[getD_set_ne (by omega)];exact h j hj
theorem YE (n j:Nat):(List.replicate n 0).getD j 0=0:=by
 rw[jh,List.getElem?_replicate]
 split <;> rfl
theorem ba8 {A:List Nat}(hA:jr A)(i:Nat):A.getD (i / 32) 0 / 2 ^ (i % 32) % 2=val A / 2 ^ i % 2:=by
 rw[getD_eq hA,xJ];have e:2 ^ i=2 ^ (32*(i / 32))*2 ^ (i % 32):=by rw[<- Nat.pow_add];congr 1;omega
 rw[e,<- Nat.div_div_eq_div_mul];generalize val A / 2 ^ (32*(i / 32))=z;have hs:i % 32<32:=Nat.mod_lt _ (by decide)
 generalize i % 32=s at hs;have hp:(4294967296:Nat)=2 ^ s*(2*2 ^ (31-s)):=by rw[<- Nat.pow_succ',<- Nat.pow_add,show s+(31-s).succ=32 by omega]
 have key:z % 4294967296 / 2 ^ s=z / 2 ^ s % (2*2 ^ (31-s)):=by rw[hp,Nat.mod_mul_right_div_self]
 rw[key,Nat.mod_mul_right_mod]
theorem ai8 (a i:Nat):a / 2 ^ i=2*(a / 2 ^ (i+1))+a / 2 ^ i % 2:=by
 rw[Nat.pow_succ,<- Nat.div_div_eq_div_mul];omega
theorem aw6 {a b Q r i:Nat}(hb:0<b)(h:a / 2 ^ (i+1)=Q*b+r)(hr:r<b) :
  (r+r+a / 2 ^ i % 2<b->a / 2 ^ i=(2*Q)*b+(r+r+a / 2 ^ i % 2))/\(b<=r+r+a / 2 ^ i % 2->a / 2 ^ i=(2*Q+1)*b+(r+r+a / 2 ^ i % 2-b)/\r+r+a / 2 ^ i % 2-b<b):=by
 have h1:=ai8 a i;have h2:a / 2 ^ i % 2<2:=Nat.mod_lt _ (by decide)
 generalize a / 2 ^ i % 2=t at *;have e1:2*Q*b=2*(Q*b):=Nat.mul_assoc ..;have e2:(2*Q+1)*b=2*(Q*b)+b:=by rw[Nat.add_mul,e1,Nat.one_mul]
 rw[e1,e2];constructor
 .intro h3;omega
 .intro h3;omega
theorem aw7 {q:List Nat}{Q i:Nat}(hq:jr q)(h:val q=Q*2 ^ (i+1)):∃ z,q.getD (i / 32) 0=z*2 ^ (i % 32+1):=by
 rw[getD_eq hq,xJ,h];have hs:i % 32<32:=Nat.mod_lt _ (by decide)
 have e:2 ^ (i+1)=2 ^ (i % 32+1)*2 ^ (32*(i / 32)):=by rw[<- Nat.pow_add];congr 1;omega
 rw[e,<- Nat.mul_assoc,Nat.mul_div_cancel _ (Nat.pow_pos (by decide))]
 generalize i % 32=s at hs;have hp:(4294967296:Nat)=2 ^ (s+1)*2 ^ (31-s):=by rw[<- Nat.pow_add,show s+1+(31-s)=32 by omega]
 rw[hp,Nat.mul_comm Q,Nat.mul_mod_mul_left,Nat.mul_comm];exact⟨_,rfl⟩
theorem or_bit {z s:Nat}:z*2 ^ (s+1) ||| 2 ^ s=z*2 ^ (s+1)+2 ^ s:=by
 rw[Nat.mul_comm,<- Nat.two_pow_add_eq_or_of_lt (Nat.pow_lt_pow_right (by decide) (by omega))]
theorem aN0 {q:List Nat}{Q i:Nat}(hl:i / 32<q.length)(hq:jr q)(h:val q=Q*2 ^ (i+1)) :
  val (q.set (i / 32) (q.getD (i / 32) 0 ||| 2 ^ (i % 32)))=(2*Q+1)*2 ^ i/\jr (q.set (i / 32) (q.getD (i / 32) 0 ||| 2 ^ (i % 32))):=by
 obtain⟨z,hz⟩:=aw7 hq h;have hs:i % 32<32:=Nat.mod_lt _ (by decide)
 have hb:2 ^ (i % 32)<2 ^ 32:=Nat.pow_lt_pow_right (by decide) hs
 have hlt:q.getD (i / 32) 0 ||| 2 ^ (i % 32)<4294967296:=Nat.or_lt_two_pow (n:=32) (hq.getD _) hb
 refine⟨?_,hq.set _ hlt⟩;have h1:=Un hl (q.getD (i / 32) 0 ||| 2 ^ (i % 32))
 have e:q.getD (i / 32) 0 ||| 2 ^ (i % 32)=q.getD (i / 32) 0+2 ^ (i % 32):=by rw[hz,or_bit]
 rw[e] at h1 ⊢;rw[Nat.add_mul,h] at h1;have e2:2 ^ (i % 32)*Bp (i / 32)=2 ^ i:=by rw[xJ,<- Nat.pow_add];congr 1;omega
 rw[e2] at h1;have e3:(2*Q+1)*2 ^ i=Q*2 ^ (i+1)+2 ^ i:=by rw[Nat.add_mul,Nat.one_mul,Nat.pow_succ,Nat.mul_comm 2 Q,Nat.mul_assoc,Nat.mul_comm 2 (2 ^ i)]
 rw[e3];omega
theorem ai9 (a:Nat):a / 2 ^ (32*(lim a).length)=0:=Nat.div_eq_of_lt (by rw[<- xJ];exact rJ a)
theorem aN1 {a b Q r:Nat}(h:a / 2 ^ 0=Q*b+r)(hr:r<b):Q=a / b/\r=a % b:=by
 have h1:=(Nat.div_mod_unique (a:=a) (c:=r) (d:=Q) (b:=b) (by omega)).2 ⟨by rw[Nat.mul_comm b];simp at h;omega,hr⟩
 exact⟨h1.1.symm,h1.2.symm⟩
theorem aa1 {A:List Nat}(hA:jr A):(A=[1]) ↔ (A.length=1/\A.getD 0 0=1):=by
 constructor
 .intro h;subst h;exact⟨rfl,rfl⟩
 .intro ⟨h1,h2⟩
  match A,h1,h2 with
  | [x],_,h2=>simp at h2;rw[h2]
theorem Iq {n:Nat}:(lim n=[1]) ↔ n=1:=by
 constructor
 .intro h;have:=bQ n;rw[h] at this;simp[jy,jw] at this;omega
 .intro h;subst h;exact xI (by decide) (by decide)
section
variable {α:Type}
def Jm (p:α->Bool)(l:List α):Int:=if l.any p then (l.findIdx p:Int) else -1
theorem getD_lt {l:List α}{i:Nat}(h:i<l.length)(d:α):l.getD i d=l[i]:=by rw[jh,lQ h];rfl
theorem getD_mem {l:List α}{i:Nat}(h:i<l.length)(d:α):l.getD i d ∈ l:=by rw[getD_lt h];exact List.getElem_mem h
theorem aw8 {l:List α}{x:α}(h:x ∈ l)(d:α):∃ i,i<l.length/\l.getD i d=x:=by
 obtain⟨i,hi,e⟩:=List.mem_iff_getElem.1 h;exact⟨i,hi,by rw[getD_lt hi];exact e⟩
theorem Eo {p:α->Bool}{l:List α}{i:Nat}(hi:i<l.length)(d:α)(hp:p (l.getD i d)=true)(hb:∀ j,j<i->p (l.getD j d)=false):Jm p l=i:=by
 unfold Jm;rw[if_pos (List.any_eq_true.2 ⟨_,getD_mem hi d,hp⟩)];have:l.findIdx p=i:=(List.findIdx_eq hi).2 ⟨by rw[getD_lt hi] at hp;exact hp,λj hj=>by have:=hb j hj;rw[getD_lt (by omega)] at this;exact this⟩
 rw[this]
theorem Gy {p:α->Bool}{l:List α}(d:α)(hb:∀ j,j<l.length->p (l.getD j d)=false):Jm p l = -1:=by
 unfold Jm;rw[if_neg];intro h;obtain⟨x,hx,hp⟩:=List.any_eq_true.1 h;obtain⟨i,hi,rfl⟩:=aw8 hx d;rw[hb i hi] at hp;cases hp
theorem VS (p:α->Bool)(l:List α):decide (0<=Jm p l)=l.any p:=by
 unfold Jm
 split
 .rename_i h;rw[h];simp
 .rename_i h;rw[Bool.not_eq_true] at h;rw[h];rfl
theorem any_false {p:α->Bool}{l:List α}(h:∀ x,x ∈ l->p x=false):l.any p=false:=by
 rw[List.any_eq_false];intro x hx;rw[h x hx];decide
end
theorem FO:sz 1=1:=by
 unfold sz;rw[show (1:Rat).num.natAbs=1 from rfl,show (1:Rat).den=1 from rfl,xI (by decide) (by decide)]
 rfl
abbrev KH (q:Rat):List V:=[.d (dB (fZ q).neg),.d (aH (fZ q).num),.d (aH (fZ q).den)]
theorem aw9:fK [.d (dB false),.mt,.mt] (KH 0):=by
 unfold KH;rw[rO];exact .cons vR (.cons bW.mt (.cons bW.mt .nil))
theorem ax0 {l:List Rat}:∀ y,y ∈ l.map dQ->y.cells.length=3:=λy hy=>by obtain⟨a,_,rfl⟩:=kK hy;rfl
theorem BJ {q:Rat}:VD (vQ q) (dQ q):=VD.ag (.cons (VC.d _) (.cons (VC.d _) (.cons (VC.d _) .nil)))
theorem zC {α:Type}{l m:List α}(hl:l.length=m.length)(d:α)(h:∀ j,j<l.length->l.getD j d=m.getD j d):l=m:=by
 refine List.ext_getElem hl λi h1 h2=>?_;have:=h i h1
 rwa [getD_lt h1,getD_lt h2] at this
def within (v m:Int):Int:=if m<1 then 0 else v % m
theorem YF {v m:Int}(h:1<=m)(h0:¬ v.tmod m<0):v.tmod m=within v m:=by
 unfold within;rw[if_neg (by omega)]
 have h1:=Int.tmod_eq_emod (a:=v) (b:=m);have h2:=Int.emod_nonneg v (show m≠0 by omega)
 have h3:=Int.emod_lt_of_pos v (show 0<m by omega)
 split at h1 <;> omega
theorem YG {v m:Int}(h:1<=m)(h0:v.tmod m<0):v.tmod m+m=within v m:=by
 unfold within;rw[if_neg (by omega)]
 have h1:=Int.tmod_eq_emod (a:=v) (b:=m);have h2:=Int.emod_nonneg v (show m≠0 by omega)
 have h3:=Int.emod_lt_of_pos v (show 0<m by omega)
 split at h1 <;> omega
theorem tmod_lt {v m:Int}(h:1<=m):-m<v.tmod m/\v.tmod m<m:=by
 have h1:=Int.tmod_eq_emod (a:=v) (b:=m);have h2:=Int.emod_nonneg v (show m≠0 by omega)
 have h3:=Int.emod_lt_of_pos v (show 0<m by omega)
 split at h1
 .omega
 .rename_i hc;have:v % m≠0:=λe=>hc (.inr (Int.dvd_of_emod_eq_zero e));omega
theorem ax1 {x s:Int}(h0:x.natAbs<4294967296)(h1:s.natAbs<4294967296)(hs:s≠0):sz ((x:Rat) / (s:Rat))<=1:=by
 rw[<- YB];exact Z5 (by omega) (sJ h0) (sJ h1)
structure MS where
 trans:List (List Rat)
 stop:List Rat
 emit:List (List Rat)
 ties:List Int
 a:Nat
structure MS.OK (L:List Int) (st sym i:Nat) (m:MS):Prop where
 lt:m.trans.length=i
 ls:m.stop.length=i
 le:m.emit.length=i
 ll:m.ties.length=i
 rowT:∀ j,j<i->(m.trans.getD j []).length=st/\FN (m.trans.getD j [])/\Small 1 (m.trans.getD j [])/\VQ (m.stop.getD j 0)/\sz (m.stop.getD j 0)<=1/\aw3 (m.trans.getD j []++[m.stop.getD j 0])=1
 bL4:∀ j,j<i->(m.emit.getD j []).length=sym/\FN (m.emit.getD j [])/\Small 1 (m.emit.getD j [])/\aw3 (m.emit.getD j [])=1
 tie:∀ j,j<i->0<=m.ties.getD j 0/\m.ties.getD j 0<=j/\m.emit.getD j []=m.emit.getD (m.ties.getD j 0).toNat []
 a:m.a<=L.length
theorem rP {i:Nat}{blk b:iF}{id:Nat}(h:mem1 i blk id=some b):id=i/\b=blk:=by
 unfold mem1 at h
 split at h
 .rename_i e;exact⟨e,by cases h;rfl⟩
 .cases h
theorem Gz (i:Nat)(blk:iF):mem1 i blk i=some blk:=by unfold mem1;rw[if_pos rfl]
theorem xw.Ir {F:Hp}{i j:Nat}{blk:iF}{w:World}(h:xw F (mem1 j blk) w):xw F (mem1 i blk) w :=
 ⟨h.sF,λid b hb=>by obtain⟨_,rfl⟩:=rP hb;exact h.own j _ (Gz _ _),λid b k hb hk=>by obtain⟨_,rfl⟩:=rP hb;exact h.apart j _ k (Gz _ _) hk,
  λa b ba bb k ha hb _ _=>by rw[(rP ha).1,(rP hb).1]⟩
theorem jV.Ir {i j:Nat}{blk:iF}{k:Nat}(h:jV (mem1 j blk) k):jV (mem1 i blk) k:=by
 obtain⟨id,b,hb,hk⟩:=h;obtain⟨_,rfl⟩:=rP hb;exact⟨i,_,Gz _ _,hk⟩
theorem gq.Ir {P:Program}{f i j:Nat}{args qY:List V}{blk jO:iF}{res:V}(h:gq P f args (mem1 i blk) res (mem1 i jO))(ha:fK qY args):gq P f qY (mem1 j blk) res (mem1 j jO) :=
 ⟨h.1,λF w vals hS hv=>(h.2 F w vals hS.Ir (qH hv ha)).mono λe w' ⟨v,F',he,hA,hs⟩ =>
  ⟨v,F',he,⟨hA.grow.mono λk hk=>hk.Ir,hA.le,hA.gX.Ir,λk a b=>(hA.new k a b).imp (λx=>x) jV.Ir,λk hk=>(hA.jZ k hk.Ir).imp (λx=>x) jV.Ir⟩,hs⟩⟩
def V.X6 (id b:Nat)(ds:List D):V->V
 | .ptr i b2 off=>if i=id then (if b2=b then .ref (ds.drop off) else .ptr i b2 off) else .ptr i b2 off
 | v=>v
def iF.X6 (id b:Nat)(ds:List D):iF->iF
 | .box x t cells=>.box x t (cells.map (V.X6 id b ds))
 | k=>k
theorem V.aa2 {F F':Hp}{id b:Nat}{ds:List D}(hle:Hp.le F F')(h:∀ off,dF F' (.pointer (some ⟨b,off,none⟩)) (.ref (ds.drop off))){u:Value}{v:V}(hv:dF F u v):dF F' u (v.X6 id b ds):=by
 cases v with
 | ptr i b2 off =>
  simp only[V.X6]
  split
  .split
   .rename_i e;subst e;cases hv
    exact h off
   .exact hv.mono hle
  .exact hv.mono hle
 | _=>exact hv.mono hle
theorem YH {F:Hp}{M:Mem}{w:World}(h:xw F M w){id b t:Nat}{cells:List V}{ds:List D}(hM:M id=some (.box b t cells))(hd:VCs cells ds) :
  ∃ F',Hp.le F F' /\ xw F' (upd M id none) w/\(∀ k,F k=none->F' k≠none->jV M k)/\∀ off,dF F' (.pointer (some ⟨b,off,none⟩)) (.ref (ds.drop off)):=by
 have hin:∀ id' jO k,(upd M id none) id' = some jO -> jO.owns k->id' ≠ id/\M id' = some jO:=λid' jO k hm hk=>by
  unfold upd at hm
  split at hm
  .cases hm
  .rename_i hne;exact⟨hne,hm⟩
 obtain⟨cs,hh,hl,h1,hr⟩:=h.own id _ hM;have hFb:F b=none:=h.apart id _ b hM rfl;have hle:Hp.le F (F.add b (.cells cs.toArray t (0,0))):=λk o hk=>by
  unfold Hp.add
  split
  .rename_i e';subst e';rw[hFb] at hk;cases hk
  .exact hk
 refine⟨F.add b (.cells cs.toArray t (0,0)),hle,⟨λk o hk=>?_,λid' jO hm=>?_,λid' jO k hm hk=>?_,λi j bi bj k hi hj ki kj=>?_⟩,λk hk hn=>?_,λoff=>.ref (us:=λk=>cs.getD (off+k) undef) λk d hd'=>?_⟩
 .unfold Hp.add at hk
  split at hk
  .rename_i e';subst e';cases hk;exact hh
  .exact h.sF k o hk
 .have hm':M id' = some jO:=by unfold upd at hm;split at hm;cases hm;exact hm
  exact (h.own id' jO hm').keep hle λk _=>rfl
 .obtain⟨hne,hm'⟩:=hin id' jO k hm hk;unfold Hp.add
  split
  .rename_i e';subst e';exact absurd (h.inj id' id _ _ _ hm' hM hk rfl) hne
  .exact h.apart id' jO k hm' hk
 .exact h.inj i j bi bj k (hin i bi k hi ki).2 (hin j bj k hj kj).2 ki kj
 .unfold Hp.add at hn
  split at hn
  .rename_i e';subst e';exact⟨id,_,hM,rfl⟩
  .exact absurd hk hn
 .rw[List.getElem?_drop] at hd';obtain⟨c,hc,hcd⟩:=hd.get (off+k) d hd';have hlt:off+k<cs.length:=by rw[hl];exact (List.getElem?_eq_some_iff.1 hc).1
  have hu:cs[off+k]? = some (cs.getD (off+k) undef):=by rw[jh,lQ hlt];rfl
  refine⟨?_,h1 _ (List.mem_of_getElem? hu),((hcd F _ (hr (off+k) c _ hc hu)).1).mono hle⟩;rw[addr_add];simp only[FD,Hp.add,if_true,List.getElem?_toArray,hu];rfl
theorem AW.Dq {P:Program}{E:Env}{k:Code}{Q:Exit->S->Prop}{s:S}(id:Nat){b t:Nat}{cells:List V}(ds:List D)(hM:s.M id=some (.box b t cells))(hd:VCs cells ds)
  (h:AW P E k Q ⟨λt=>(s.ρ t).X6 id b ds,λj=>if j=id then none else (s.M j).map (iF.X6 id b ds)⟩):AW P E k Q s:=λF a w hr=>by
 obtain⟨F',h1,h2,h3,h4⟩:=YH hr.gX hM hd;refine h F' a w ?_;have part:∀ j blk,(λj=>if j=id then none else (s.M j).map (iF.X6 id b ds)) j=some blk->∃ bl,(upd s.M id none) j=some bl/\s.M j=some bl/\blk=bl.X6 id b ds:=λj blk hj=>by
  simp only at hj
  split at hj
  .cases hj
  .rename_i hne;cases hq:s.M j with
   | none=>rw[hq] at hj;cases hj
   | some bl=>rw[hq] at hj;cases hj;exact⟨bl,by rw[upd_ne _ _ hne];exact hq,rfl,rfl⟩
 have ow:∀ (bl:iF) (k:Nat),(bl.X6 id b ds).owns k->bl.owns k:=λbl k hk=>by cases bl <;> exact hk
 refine⟨⟨h2.sF,λj blk hj=>?_,λj blk k hj ho=>?_,λi j bi bj k hi hj hoi hoj=>?_⟩,hr.grow,hr.f0.trans h1,λk p q=>?_,λj blk k hj ho=>?_,hr.size,hr.defers,λt=>V.aa2 h1 h4 (hr.slots t)⟩
 .obtain⟨bl,hb,hb0,rfl⟩:=part j blk hj;have ok:=h2.own j bl hb;cases bl with
  | row=>exact ok
  | pool=>exact ok
  | mat=>exact ok
  | box x t cells =>
   obtain⟨cs,g1,g2,g3,g4⟩:=hr.gX.own j _ hb0;refine⟨cs,g1,by simpa using g2,g3,λi v u hv hu=>?_⟩
   rw[List.getElem?_map] at hv;cases hq:cells[i]? with
   | none=>rw[hq] at hv;cases hv
   | some v0=>rw[hq] at hv;cases hv;exact V.aa2 h1 h4 (g4 i v0 u hq hu)
 .obtain⟨bl,hb,_,rfl⟩:=part j blk hj;exact h2.apart j bl k hb (ow bl k ho)
 .obtain⟨b1,hb1,_,rfl⟩:=part i bi hi;obtain⟨b2,hb2,_,rfl⟩:=part j bj hj;exact h2.inj i j b1 b2 k hb1 hb2 (ow _ _ hoi) (ow _ _ hoj)
 .cases hf:F k with
  | none =>
   obtain⟨i,bl,hi,ho⟩:=h3 k hf q;exact hr.jZ i bl k hi ho
  | some o=>exact hr.yK k p (by rw[hf];simp)
 .obtain⟨bl,_,hb,rfl⟩:=part j blk hj;exact hr.jZ j bl k hb (ow _ _ ho)
theorem FP {id b off:Nat}{ds:List D}:V.X6 id b ds (.ptr id b off)=.ref (ds.drop off):=by simp[V.X6]
section
variable {P:Program}
def OT (P:Program)(ops:Array Oper)(K:S->Prop):Nat->Array Bool->S->Prop
 | 0,listed,s=>Region.ready .any ops listed=[]/\K s
 | n+1,listed,s=>Region.ready .any ops listed≠[]/\∀ i,i ∈ Region.ready .any ops listed->∃ o,ops[i]? = some o/\OG P 0 ops o (OT P ops K n (listed.setIfInBounds i true)) s
def OTs (P:Program)(ops:Array Oper)(K:S->Prop)(n:Nat)(listed:Array Bool)(s:S):List Nat->List Oper->Prop
 | [],[]=>True
 | i::l,o::os=>OL P 0 ops (OT P ops K n (listed.setIfInBounds i true)) [o] s/\OTs P ops K n listed s l os
 | _,_=>False
theorem OTs.get {ops:Array Oper}{K:S->Prop}{n:Nat}{listed:Array Bool}{s:S}:∀ (l:List Nat) (os:List Oper),l.map (λi=>ops[i]?)=os.map some->OTs P ops K n listed s l os->∀ i,i ∈ l->∃ o,ops[i]? = some o/\OG P 0 ops o (OT P ops K n (listed.setIfInBounds i true)) s
 | [],_,_,_,i,hi=>by simp at hi
 | j::l,[],h,_,_,_=>by simp at h
 | j::l,o::os,h,ht,i,hi=>by
  simp only[List.map_cons,List.cons.injEq] at h;rcases List.mem_cons.1 hi with rfl|hi
  .exact⟨o,h.1,ht.1⟩
  .exact OTs.get l os h.2 ht.2 i hi
