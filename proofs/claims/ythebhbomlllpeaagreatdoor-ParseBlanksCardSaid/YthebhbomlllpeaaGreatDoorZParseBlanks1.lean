/-
  ParseBlanks: what the proof needs, put together by a program of this session (shake.py), part 1.
-/
import Derived.Test.YthebhbomlllpeaaGreatDoorCards
import Derived.Test.YthebhbomlllpeaaGreatDoorTie
import Derived.Test.YthebhbomlllpeaaGreatDoorProg
import Derived.Below
import Derived.Deep.Draws
import Derived.Deep.AppendLies
import Derived.Maps.AppendAt
import Derived.OwnWalk
import Derived.Laws.BytesArg
import Derived.Laws.MakeOwn
import Derived.Laws.OwnMore
import Derived.Deep.OwnRows
import Derived.Tactics
import Derived.Lib.ConvBytes
import Derived.Laws.Slices
import Derived.WalkKit
import Derived.KernelRfl
import Derived.RowKit3
import Derived.Deep.LoopGhost
import Derived.Deep.QuietTactic
import Derived.BigQuiet
import Derived.WideLaws
import Derived.Deep.DeepCutAuto
import Derived.Deep.CutBlock
import Derived.Deep.RegionHeld3
import Derived.Laws.Rows
import Derived.Lib.AppendStr
import Derived.ArgAppend
import Derived.Laws.IdiomCopy
import Derived.OrdersHeld
import Derived.Laws.BitsLemmas
import Derived.RowKit
import Derived.Lib.SmallJoins
import Derived.Lib.ItoaMem
import Derived.Laws.StructEq
import Derived.Test.YthebhbomlllpeaaGreatDoorRows
import Derived.Deep.Slices
import Derived.Deep.Fields
import Derived.ChangeSame
import Derived.ProofKit
import Derived.OpenShut
import Derived.Deep.DeepHandedRow
import Derived.Lib.LaidTab
import Derived.LaidMore
import Derived.Stop.LaidErr
import Derived.MakeChecks
import Init
import Derived.Laws.NewBlocks
import Derived.Shelf.Strings.Builder1
import Derived.Shelf.Strings.Builder2
import Derived.Shelf.Strings.OnBuilder
import Derived.Shelf.Small.Strs
import Derived.Shelf.Small.Wraps
import Derived.Shelf.Strings.BuilderF
import Derived.Shelf.Strings.BuilderK
import Derived.Shelf.Strings.Builder2Cap
import Derived.Shelf.Strconv.Itoa0
import Derived.Shelf.Strconv.Itoa1
import Derived.Shelf.LaysM
import Derived.Shelf.Strconv.Itoa2
import Derived.Shelf.Strconv.Itoa3
import Derived.Shelf.Strconv.Itoa4
import Derived.Shelf.Strconv.ParseIntEmpty
import Derived.Shelf.Strconv.Clone
import Derived.Shelf.Strconv.SyntaxError
import Derived.Shelf.LaysC
import Derived.Shelf.Strconv.ToError
import Derived.Shelf.Strconv.Lower
import Derived.Shelf.Strconv.ParseUint10
import Derived.Shelf.Strconv.ParseUint10Empty
import Derived.Shelf.Strconv.ParseUint10Any
import Derived.Shelf.Strconv.ParseInt10
import Derived.Shelf.Strconv.RangeError
import Derived.Shelf.Strconv.ToErrorRange
import Derived.Shelf.Strconv.ParseUintEmpty
import Derived.Shelf.Strconv.ParseUint10b64
import Derived.Shelf.Strconv.ParseUint10b32
import Derived.Shelf.Strconv.ParseUint10b16
import Derived.Shelf.Strconv.ParseUint10b8
import Derived.Shelf.Strconv.ParseUint10At
import Derived.Shelf.Strconv.ParseInt10At64
import Derived.Shelf.Strconv.ParseInt10At32
import Derived.Shelf.Strconv.ParseInt10At16
import Derived.Shelf.Strconv.ParseInt10At8
import Derived.Shelf.Strconv.ParseInt10All
import Derived.Shelf.Strconv.ParseIntPublic10
import Derived.Shelf.Strconv.ErrVarParseInt
import Derived.Ground.MpProg
import Derived.Shelf.Pu.ParseUintPublic10
import Derived.Shelf.Pu.ErrVarParseUint
import Derived.Shelf.Strings.Search1
import Derived.Shelf.Strings.Prefix
import Derived.Shelf.Bits.Mul64
import Derived.Shelf.Strings.Repeat
import Derived.Shelf.Strings.BuilderCap
import Derived.Lib.AtoiAllMem
import Derived.Lib.ParseIntB
import Derived.Lib.Hide
import Derived.Laws.Strings3
import Derived.Laws.Closers25
import Derived.Laws.Closers25b
import Derived.BigCall
import Derived.BigGuard
import Derived.Laws.RangeAny
import Derived.Laws.RangeString
import Derived.Lib.ParseIntBTie
import Derived.WalkLawsBesides
import Derived.StillTailTactics
import Derived.LoopN
import Derived.WalkMore
import Derived.Deep.MidRow
import Derived.Recover
namespace Go.Proofs
theorem zA00 {p:Prop} (h:p:=by repeat(first|(with_reducible first|exact HB.out|apply z04|apply z02|apply z05)|exact HB.out)):p:=h
theorem zA01 {p:Prop} (h:p:=by first|(with_reducible assumption)|assumption):p:=h
theorem zA02 {p:Prop} (h:p:=by(try simp only[List.map_toArray,List.map_cons,List.map_nil]);first|done|rfl|(simp only[List.length_drop,List.length_take];rfl)):p:=h
theorem zA03 {p:Prop} (h:p:=by(with_reducible repeat(first|refine z07 ?_ _|refine z09 ?_|refine z06 ?_ _));refine z0w ?_ NB195_196.out _;(with_reducible repeat(first|refine z07 ?_ _|refine z09 ?_|refine z06 ?_ _));refine z0w ?_ NB195_196.out _;(with_reducible repeat(first|refine z07 ?_ _|refine z09 ?_|refine z06 ?_ _));refine z0w ?_ NB195_196.out _;(with_reducible repeat(first|refine z07 ?_ _|refine z09 ?_|refine z06 ?_ _));exact BK195.out):p:=h
theorem zA04 {p:Prop} (h:p:=by(with_reducible repeat(first|refine z07 ?_ _|refine z09 ?_|refine z06 ?_ _));refine z0l (cs:=#[.int .i64 3,.int .i64 0,.string (⟨#[]⟩:ByteArray)]) ?_ 2 _ rfl;(with_reducible repeat(first|refine z07 ?_ _|refine z09 ?_|refine z06 ?_ _));refine z0l (cs:=#[.int .i64 3,.int .i64 0,.string (⟨#[]⟩:ByteArray)]) ?_ 1 _ rfl;(with_reducible repeat(first|refine z07 ?_ _|refine z09 ?_|refine z06 ?_ _));refine z0l (cs:=#[.int .i64 0,.int .i64 0,.string (⟨#[]⟩:ByteArray)]) ?_ 0 _ rfl;(with_reducible repeat(first|refine z07 ?_ _|refine z09 ?_|refine z06 ?_ _));exact BK196.out):p:=h
theorem zA05 {p:Prop} (h:p:=by repeat(first|(with_reducible first|exact HB.out|apply z04|apply z02|apply z05|refine z08 ?_ GE204.out)|exact HB.out)):p:=h
theorem zA06 {p:Prop} (h:p:=by first|rfl|(simp;done)|(simp[*];done)):p:=h
theorem zA07 {p:Prop} (h:p:=by(with_reducible repeat(first|refine z07 ?_ _|refine z09 ?_|refine z06 ?_ _));refine z0l (cs:=#[.int .i64 0,.int .i64 0,.string (⟨#[]⟩:ByteArray)]) ?_ 2 _ rfl;(with_reducible repeat(first|refine z07 ?_ _|refine z09 ?_|refine z06 ?_ _));refine z0l (cs:=#[.int .i64 0,.int .i64 0,.string (⟨#[]⟩:ByteArray)]) ?_ 1 _ rfl;(with_reducible repeat(first|refine z07 ?_ _|refine z09 ?_|refine z06 ?_ _));refine z0l (cs:=#[.int .i64 0,.int .i64 0,.string (⟨#[]⟩:ByteArray)]) ?_ 0 _ rfl;(with_reducible repeat(first|refine z07 ?_ _|refine z09 ?_|refine z06 ?_ _));exact BK195.out):p:=h
theorem zA08 {p:Prop} (h:p:=by repeat(first|(with_reducible first|exact HB.out|apply z04|apply z02|apply z05|refine z08 ?_ GE195.out|refine z08 ?_ GE196.out)|exact HB.out)):p:=h
theorem zA09 {p:Prop} (h:p:=by(with_reducible repeat(first|refine z07 ?_ _|refine z09 ?_|refine z06 ?_ _));exact BK204.out):p:=h
theorem zA0a {p:Prop} (h:p:=by repeat(first|(with_reducible first|exact HB.out|apply z04|apply z02|apply z05|refine z08 ?_ GE195.out)|exact HB.out)):p:=h
theorem zA0b {p:Prop} (h:p:=by(with_reducible repeat(first|refine z07 ?_ _|refine z09 ?_|refine z06 ?_ _));exact BK195.out):p:=h
theorem zA0c {p:Prop} (h:p:=by(with_reducible repeat(first|refine z07 ?_ _|refine z09 ?_|refine z06 ?_ _));exact BK674.out):p:=h
theorem zA0d {p:Prop} (h:p:=by repeat(first|(with_reducible first|exact HB.out|apply z04|apply z02|apply z05|refine z08 ?_ GE174.out)|exact HB.out)):p:=h
theorem zA0e {p:Prop} (h:p:=by repeat(first|(with_reducible first|exact HB.out|apply z04|apply z02|apply z05|refine z08 ?_ GE674.out)|exact HB.out)):p:=h
theorem zA0f {p:Prop} (h:p:=by(with_reducible repeat(first|apply Kd.R_alloc|apply Kd.R_drewN|apply Kd.R_drew));exact Kd.R_mono (Kd.R_far (p:=⟨gb128,2,none⟩) (Kd.R_far (p:=⟨gb128,1,none⟩) (Kd.R_far (p:=⟨gb128,0,none⟩) (Kd.R_mono HO_16.out (fun k_ hk=>(⟨hk,hk.2⟩:_∧k_≠gb128))) (fun _ hk=>hk.2) (.int .i64 ((z2f t122 x18_1).f0))) (fun _ hk=>hk.2) (.string ((z2f t122 x18_1).f1))) (fun _ hk=>hk.2) (.int .i64 ((z2f t122 x18_1).f2))) (fun _ hk=>trivial)):p:=h
theorem zA0g {p:Prop} (h:p:=by have:(0:Int)<(a0.size:Int):=of_decide_eq_true zA01;omega):p:=h
theorem zA0h {p:Prop} (h:p:=by(with_reducible repeat(first|refine z07 ?_ _|refine z09 ?_|refine z06 ?_ _));exact BK174.out):p:=h
theorem zA0i {p:Prop} (h:p:=by have:=HG3.out;omega):p:=h
theorem zA0j {p:Prop} (h:p:=by(with_reducible repeat(first|apply Kd.R_alloc|apply Kd.R_drewN|apply Kd.R_drew));exact HO_5.out):p:=h
theorem zA0k {p:Prop} (h:p:=by have:=HJ5.out;have:=HJ16.out;first|omega|exact Nat.le_refl _):p:=h
theorem zA0l {p:Prop} (h:p:=by rw[ByteArray.size_extract];omega):p:=h
theorem zA0m {p:Prop} (h:p:=by first|omega|exact Nat.le_refl _):p:=h
theorem zA0n {p:Prop} (h:p:=by repeat(first|(with_reducible first|exact HB.out|apply z04|apply z02|apply z05|refine z08 ?_ GE674.out|refine z08 ?_ GE675.out)|exact HB.out)):p:=h
theorem zA0o {p:Prop} (h:p:=by rw[List.length_drop,List.length_cons];omega):p:=h
theorem zA0p {p:Prop} (h:p:=by(with_reducible repeat(first|refine z07 ?_ _|refine z09 ?_|refine z06 ?_ _));exact BK675.out):p:=h
theorem zA0q {p:Prop} (h:p:=by(with_reducible repeat(first|refine z07 ?_ _|refine z09 ?_|refine z06 ?_ _));exact BK196.out):p:=h
theorem zA0r {p:Prop} (h:p:=by rw[←hc1,z0y,z32 ts en,z2y ts en,HX3.out,HX4.out]):p:=h
theorem zA0s {p:Prop} (h:p:=by simp only[z73,Act.put,List.setIfInBounds_toArray,List.set_cons_zero,List.set_cons_succ]):p:=h
theorem zA0t {p:Prop} (h:p:=by first|rfl|(simp;rfl)):p:=h
theorem zA0u {p:Prop} (h:p:=by repeat(first|(with_reducible first|exact HB.out|apply z04|apply z02|apply z05|refine z08 ?_ GE128.out)|exact HB.out)):p:=h
theorem zA0v {p:Prop} (h:p:=by repeat(first|(with_reducible first|exact HB.out|apply z04|apply z02|apply z05|refine z08 ?_ GE220.out)|exact HB.out)):p:=h
theorem zA0w {p:Prop} (h:p:=by(try simp only[List.map_toArray,List.map_cons,List.map_nil]);first|done|rfl):p:=h
theorem zA0x {p:Prop} (h:p:=by rw[h,Bool.and_eq_true]at hc0;exact hc0.2):p:=h
theorem zA0y {p:Prop} (h:p:=by show w.heap.size≠w.heap.size+1;omega):p:=h
theorem zA0z {p:Prop} (h:p:=by first|rfl|(congr 1;omega)):p:=h
theorem zA10 {p:Prop} (h:p:=by(with_reducible repeat(first|apply Kd.R_alloc|apply Kd.R_drewN|apply Kd.R_drew));exact HO_16.out):p:=h
theorem zA11 {p:Prop} (h:p:=by have:=HK1.out;first|omega|exact Nat.le_refl _):p:=h
theorem zA12 {p:Prop} (h:p:=by simp only[Bool.false_eq_true,if_false];(repeat' split) <;> decide):p:=h
theorem zA13 {p:Prop} (h:p:=by rw[HQ.out,zag (by assumption) (by assumption) (by assumption),z0y];simp[List.append_assoc]):p:=h
theorem zA14 {p:Prop} (h:p:=by unfold z1r.f;rw[if_pos zA0l,hq]):p:=h
theorem zA15 {p:Prop} (h:p:=by rw[←hc2,z32 ts en,HX3.out]):p:=h
theorem zA16 {p:Prop} (h:p:=by rw[←hc3,z32 ts en,HX3.out]):p:=h
theorem zA17 {p:Prop} (h:p:=by rw[←hc4,z4l ts en,HX3.out]):p:=h
theorem zA18 {p:Prop} (h:p:=by rw[HQ.out,zb2 (by assumption) (by assumption),z0y];simp[List.append_assoc]):p:=h
theorem zA19 {p:Prop} (h:p:=by have:=HJ2.out;first|omega|exact Nat.le_refl _):p:=h
theorem zA1a {p:Prop} (h:p:=by exact(HLW.out.alloc _).drewN _):p:=h
theorem zA1b {p:Prop} (h:p:=by have:=HK1.out;omega):p:=h
theorem zA1c {p:Prop} (h:p:=by show n4≠n6;omega):p:=h
theorem zA1d {p:Prop} (h:p:=by rw[HQ.out,zay (by assumption),z0y];simp[List.append_assoc]):p:=h
end Go.Proofs
set_option linter.unusedVariables false
set_option linter.unusedSimpArgs false
namespace Go.Proofs.YthebhbomlllpeaaGreatDoor.X
open Go Go.RowKit Go.Lib Go.Joins
theorem gPow : ∃ g, Tryz.prog.globalNamed "internal/strconv.uint64pow10" = some g := ⟨1, by kernel_rfl⟩
theorem zda : Tryz.prog.globalNamed "math/bits.deBruijn64tab" = some 5 := by kernel_rfl
def zdr:List Int:=[0,1,56,2,57,49,28,3,61,58,42,50,38,29,17,4,62,47,59,36,45,43,51,22,53,39,33,30,24,18,12,5,63,55,48,27,60,41,37,16,46,35,44,21,52,32,23,11,54,26,40,15,34,20,31,10,25,14,19,9,13,8,7,6]
structure LaidW (w:World):Prop where
 t10 : TabIs Tryz.prog w "internal/strconv.uint64pow10" .u64 pow10Tab
 t64 : TabIs Tryz.prog w "math/bits.deBruijn64tab" .u8 zdr
 eSyn : ∃ tp p, w.var? Tryz.prog "strconv.ErrSyntax" = some #[.iface tp p]
 eRan : ∃ tp p, w.var? Tryz.prog "strconv.ErrRange" = some #[.iface tp p]
theorem gSyn : Tryz.prog.globalNamed "strconv.ErrSyntax" = some 2 := by kernel_rfl
theorem gRan : Tryz.prog.globalNamed "strconv.ErrRange" = some 3 := by kernel_rfl
theorem LaidW.below {w w':World} (h:LaidW w) (hb:Below w.heap.size w w'):LaidW w' :=
 ⟨by obtain⟨g,hg⟩:=gPow;exact tab_stays hg h.t10 hb (Nat.le_refl _),tab_stays zda h.t64 hb (Nat.le_refl _),
  by obtain⟨tp,p,hv⟩:=h.eSyn;exact⟨tp,p,var_stays gSyn hv hb (Nat.le_refl _)⟩,by obtain⟨tp,p,hv⟩:=h.eRan;exact⟨tp,p,var_stays gRan hv hb (Nat.le_refl _)⟩⟩
theorem LaidW.alloc {w:World} (h:LaidW w) (o:Obj):LaidW (w.alloc o):=h.below ((Below.refl _ _).alloc (Nat.le_refl _) o)
theorem LaidW.drewN {w:World} (h:LaidW w) (n:Nat):LaidW (w.drewN n):=⟨h.t10,h.t64,h.eSyn,h.eRan⟩
theorem LaidW.drew {w:World} (h:LaidW w):LaidW w.drew:=⟨h.t10,h.t64,h.eSyn,h.eRan⟩
end Go.Proofs.YthebhbomlllpeaaGreatDoor.X
namespace Go.Proofs.YthebhbomlllpeaaGreatDoorW.PrintWords
open Go.RowKit
structure z00 (p:Prop):Prop where mk::(out:p)
structure z0d (w w':World):Prop where mk::(out:∃n,w'=w.drewN n)
theorem z0d.refl (w:World):z0d w w:=⟨⟨0,rfl⟩⟩
theorem z0d.step {w w':World} (h:z0d w w') (n:Nat):z0d w (w'.drewN n):=by
 obtain⟨m,rfl⟩:=h;exact⟨⟨m+n,World.drewN_drewN ..⟩⟩
theorem z0d.below {w w':World} (h:z0d w w'):Below w.heap.size w w':=by
 obtain⟨n,rfl⟩:=h
 induction n with
 |zero=>exact Below.refl _ _
 |succ n ih=>rw[←World.drew_drewN];exact ih.drew
def rd (xs:List Int) (i:Int):Int:=xs.getD i.toNat 0
def bt (s:ByteArray) (i:Int):Int:=if h:i.toNat<s.size then((s[i.toNat]'h).toNat:Int)else 0
theorem bt_at (s:ByteArray) (i:Int):∀h:i.toNat<s.size,((s[i.toNat]'h).toNat:Int)=bt s i:=fun h=>by simp[bt,h]
def nums (k:IntKind) (xs:List Int):List Value:=xs.map fun x=>.int k x
theorem z04 {w W:World} (h:Below w.heap.size w W) (o:Obj):Below w.heap.size w (W.alloc o):=h.alloc h.size o
theorem zf3 {B:Nat} {w W:World} (h:Below B w W):Below B w W.drew:=⟨h.os,h.tape,h.output,h.size,h.block⟩
theorem z02 {B:Nat} {w W:World} (h:Below B w W) (n:Nat):Below B w (W.drewN n):=⟨h.os,h.tape,h.output,h.size,h.block⟩
theorem z14 {B:Nat} {w w1 w2:World} (h:Below B w w1) (hB:B≤w1.heap.size) (k:Below w1.heap.size w1 w2):Below B w w2 :=
 h.trans ⟨k.os,k.tape,k.output,k.size,fun i hi=>k.block i (Nat.lt_of_lt_of_le hi hB)⟩
theorem z98 {w w1:World} (h:Below w.heap.size w w1) (row:Option Nat):w.grownBy w1 row:=⟨h.os,h.tape,h.output,h.size,fun i hi _=>h.block i hi⟩
theorem z0r {w w1:World} (h:Below w.heap.size w w1) {a:Addr} {v:Value} (hc:w.cell? a=some v):w1.cell? a=some v:=(h.cell (World.block_lt_of_cell? w a hc)).trans hc
theorem add_plain (g j:Nat):(⟨g,0,none⟩:Addr).add j=⟨g,j,none⟩:=by unfold Addr.add;split <;> simp_all
def zdq (w:World) (k:IntKind) (A:Option Addr) (n:Nat) (xs:List Int):Prop :=
 xs.length=n∧n≤9223372036854775807∧(0<n→∃ad,A=some ad∧∀j,j<n→w.cell? (ad.add j)=some (.int k (xs.getD j 0)))
theorem zdq.at_ {w:World} {k:IntKind} {A:Option Addr} {n:Nat} {xs:List Int} (h:zdq w k A n xs) (i:Int) (h0:0≤i) (h1:i<n):∃ad,A=some ad∧w.cell? (ad.add i.toNat)=some (.int k (rd xs i)):=by
 obtain⟨ad,e,hc⟩:=h.2.2 (by omega);exact⟨ad,e,hc _ (by omega)⟩
theorem own_nil (W:World) (base:Nat) (e:TypeId) (size:Nat):W.ownsRow base e size (.slice none 0 0) 0 []:=⟨by simp,.inl ⟨rfl,rfl⟩⟩
theorem z7w {w:World} {base:Nat} {e:TypeId} {size n:Nat} {v:Value} {xs:List Value} (h:w.ownsRow base e size v n xs) (k:Nat) (hk:v.ownBlock=some k):base≤k:=by
 rcases h.2 with ⟨rfl,_⟩|⟨g,cap,cur,rfl,hb,_⟩
 · simp[Value.ownBlock]at hk
 · have:g=k:=by simpa [Value.ownBlock] using hk
   omega
theorem own_lt {w:World} {base:Nat} {e:TypeId} {size n:Nat} {v:Value} {xs:List Value} (h:w.ownsRow base e size v n xs) (k:Nat) (hk:v.ownBlock=some k):k<w.heap.size:=by
 rcases h.2 with ⟨rfl,_⟩|⟨g,cap,cur,rfl,hb,hh,_⟩
 · simp[Value.ownBlock]at hk
 · have:g=k:=by simpa [Value.ownBlock] using hk
   subst this;exact(Array.getElem?_eq_some_iff.1 hh).1
theorem za4 {P:Program} {w:World} {base n:Nat} {e' src dst e:TypeId} {v:Value} {xs:List Int} (hs:P.underlying src=some (.slice e)) (he:P.underlying e=some (.int .u8)) (hd:P.underlying dst=some .string)
 (h:w.ownsRow base e' 1 v n (nums .u8 xs)):(convert src dst v).run P w=.ok (.string (strOfNums xs)) w:=by
 have hl:xs.length=n:=by have:=h.1;simp[nums]at this;exact this
 rcases h.2 with ⟨rfl,rfl⟩|⟨g,cap,cur,rfl,_⟩
 · obtain rfl:xs=[]:=List.eq_nil_of_length_eq_zero hl;exact run_convert_bytes_nil w src e hs he 0 0 dst hd
 · refine run_convert_bytes_arg w src e hs he g 0 n cap xs hl (fun i hi=>?_) dst hd;have hc:=h.cells (g:=g) rfl i (.int .u8 (xs.getD i 0)) (by simp[nums,List.getElem?_eq_getElem (show i<xs.length by omega),List.getD_eq_getElem?_getD]);have ha:(⟨g,0,none⟩:Addr).add i=⟨g,0+i,none⟩:=by unfold Addr.add;split <;> simp_all
   rwa [ha]at hc
theorem z0n (s:ByteArray):s.data.toList.length=s.size:=by rw[Array.length_toList];rfl
def LeO {α:Type} (a b:Option α):Prop:=∀r,a=some r→b=some r
def Reps {α:Type} (R:α→List Value→Prop) (size:Nat) (ps:List α) (cs:List Value):Prop :=
 cs.length=ps.length * size∧∀j p,ps[j]?=some p→R p ((cs.drop (j * size)).take size)
theorem Reps.none {α:Type} (R:α→List Value→Prop) (size:Nat):Reps R size [] []:=⟨by simp,fun j p h=>by simp at h⟩
theorem Reps.snoc {α:Type} {R:α→List Value→Prop} {size:Nat} {ps:List α} {cs c:List Value} {p:α} (h:Reps R size ps cs) (hp:R p c) (hc:c.length=size):Reps R size (ps++[p]) (cs++c):=by
 refine⟨by rw[List.length_append,h.1,hc,List.length_append,List.length_singleton,Nat.add_mul,Nat.one_mul],fun j q hq=>?_⟩;rcases Nat.lt_or_ge j ps.length with hj|hj
 · rw[List.getElem?_append_left hj]at hq;have h1:j * size+size≤cs.length:=by rw[h.1,←Nat.succ_mul];exact Nat.mul_le_mul_right _ hj
   have h2:=h.2 j q hq;rw[List.drop_append_of_le_length (by omega),List.take_append_of_le_length (by rw[List.length_drop];omega)];exact h2
 · have hj':j=ps.length:=by
    have:=(List.getElem?_eq_some_iff.1 hq).1;rw[List.length_append,List.length_singleton]at this;omega
   subst hj';have hq':p=q:=by simpa using hq
   subst hq';rw[←h.1,List.drop_left,←hc,List.take_length];exact hp
theorem Reps.imp_ {α:Type} {R R':α→List Value→Prop} {size:Nat} {ps:List α} {cs:List Value} (h:Reps R size ps cs) (hR:∀p c,R p c→R' p c):Reps R' size ps cs:=⟨h.1,fun j p hj=>hR _ _ (h.2 j p hj)⟩
def z3m {α:Type} (R:α→List Value→Prop) (size:Nat) (w:World) (A:Option Addr) (n:Nat) (ps:List α):Prop :=
 ps.length=n∧n≤9223372036854775807∧(0<n→∃ad,A=some ad∧∀j p,ps[j]?=some p→∃c,c.length=size∧R p c∧∀i u,c[i]?=some u→w.cell? (ad.add (j * size+i))=some u)
theorem z3m.get_ {α:Type} {R:α→List Value→Prop} {size:Nat} {w:World} {A:Option Addr} {n:Nat} {ps:List α} (h:z3m R size w A n ps) (d:α) (i:Int) (h0:0≤i) (h1:i<n) :
 ∃ad c,A=some ad∧c.length=size∧R (ps.getD i.toNat d) c∧∀j u,c[j]?=some u→w.cell? (ad.add (i.toNat * size+j))=some u:=by
 obtain⟨ad,e,hc⟩:=h.2.2 (by omega);have hl:i.toNat<ps.length:=by have:=h.1;omega
 obtain⟨c,hs,hr,hcell⟩:=hc i.toNat _ (List.getElem?_eq_getElem hl);refine⟨ad,c,e,hs,?_,hcell⟩;rw[List.getD_eq_getElem?_getD,List.getElem?_eq_getElem hl];exact hr
theorem z3m.imp_ {α:Type} {R R':α→List Value→Prop} {size:Nat} {w w1:World} {A:Option Addr} {n:Nat} {ps:List α} (h:z3m R size w A n ps) (hb:Below w.heap.size w w1) (hR:∀p c,R p c→R' p c):z3m R' size w1 A n ps :=
 ⟨h.1,h.2.1,fun hn=>by
  obtain⟨ad,e,hc⟩:=h.2.2 hn;refine⟨ad,e,fun j p hj=>?_⟩;obtain⟨c,hs,hr,hcell⟩:=hc j p hj;exact⟨c,hs,hR _ _ hr,fun i u hu=>z0r hb (hcell i u hu)⟩⟩
theorem zac {α:Type} {R:α→List Value→Prop} {w:World} {base n size:Nat} {e:TypeId} {v:Value} {ps:List α} {cs:List Value} (h:w.ownsRow base e size v n cs) (hR:Reps R size ps cs) (hn:ps.length=n) :
 ∃A c,v=.slice A n c∧z3m R size w A n ps:=by
 rcases Nat.eq_zero_or_pos n with h0|h0
 · rcases h.2 with ⟨rfl,rfl⟩|⟨g,cap,cur,rfl,_⟩
   · exact⟨none,0,rfl,hn,by omega,fun hp=>absurd hp (by omega)⟩
   · exact⟨_,cap,rfl,hn,by omega,fun hp=>absurd hp (by omega)⟩
 · obtain⟨g,cap,rfl,_,_⟩:=h.form h0;have hm:n≤9223372036854775807:=by
    rcases h.2 with ⟨_,h1⟩|⟨g',cap',cur,he,_,_,h1,h2,_⟩
    · omega
    · simp only[maxLen]at h2;omega
   refine⟨_,cap,rfl,hn,hm,fun _=>⟨_,rfl,fun j p hj=>⟨(cs.drop (j * size)).take size,?_,hR.2 j p hj,fun i u hu=>?_⟩⟩⟩
   · have hjl:=(List.getElem?_eq_some_iff.1 hj).1;have h1:j * size+size≤cs.length:=by rw[hR.1,←Nat.succ_mul];exact Nat.mul_le_mul_right _ hjl
     rw[List.length_take,List.length_drop];omega
   · refine h.cells (g:=g) rfl _ u ?_;rw[List.getElem?_take]at hu
     split at hu
     · rw[List.getElem?_drop]at hu;exact hu
     · cases hu
theorem z1v (ad:Addr) (m j:Nat) (hj:0<j):ad.add (m+j)=⟨(ad.add m).block,(ad.add m).off+j,none⟩:=by
 unfold Addr.add
 by_cases hm:m=0
 · subst hm
   simp[Nat.ne_of_gt hj]
 · simp[hm,Nat.add_assoc]
section
variable {P:Program} {ops:Array Oper} {rest:List Oper} {o:Oper} {a:Act} {Q:Exit→Act→World→Prop}
theorem z6u {w0 W:World} (base:Nat) (hgd:o.guard=none) (s x:Operand) (t e:TypeId) (z:Value) (size bytes:Nat)
 (ho:o.op=.call { callee:=.builtin .append,args:=#[s,x],argTypes:=#[t,t]})
 (ht:P.underlying t=some (.slice e)) (hinfo:(P.info? e).map (fun i=>(i.zero,i.size,i.bytes))=some (some z,size,bytes)) (hz:z.cells.size=size) (hs0:0<size) (hb0:0<bytes)
 (v:Value) (n:Nat) (xs ys:List Value) (hs:a.eval s=v) (hx:a.eval x=.slice (some ⟨W.heap.size,0,none⟩) 1 1) (hys:ys.length=size) (h1:∀u ∈ ys,u.oneCell'=true)
 (HO:W.ownsRow base e size v n xs) (HB:Below base w0 W) (hbase:base≤W.heap.size) (hl:(n+1) * bytes≤140737488355328)
 (h:∀v1 w1,w1.ownsRow base e size v1 (n+1) (xs++ys)→Below base w0 w1→W.grownBy w1 v.ownBlock→(v1.ownBlock=v.ownBlock∨∃b,v1.ownBlock=some b∧W.heap.size≤b)→wpList P ops Q rest (a.put o.dst v1) w1) :
 wpList P ops Q (o::rest) a (W.alloc (.cells ys.toArray e)):=by
 obtain⟨i0,hi,hzz⟩:=Option.map_eq_some_iff.1 hinfo;simp only[Prod.mk.injEq]at hzz;obtain⟨hz0,hz1,hz2⟩:=hzz;have hlen:n+1≤140737488355328:=Nat.le_trans (Nat.le_mul_of_pos_right _ hb0) hl;refine wpList_append_own_at (W.alloc (.cells ys.toArray e)) hgd s x t ho base e i0 z size bytes ht hi hz0 hz1 hz2 hz hs0 v n xs hs (HO.alloc _) ⟨W.heap.size,0,none⟩ 1 1 ys hx (by rw[hys];simp)
  (by simpa using World.news_of_block (cs:=ys.toArray) (t:=e) (fr:=(0,0)) (heap_alloc_new W (.cells ys.toArray e))) h1 (by simp only[maxLen];omega) hl (by simp;omega) ?_
 intro v1 w1 hown hg _ hat;refine h v1 w1 hown ((HB.alloc hbase _).grown hg (by simp;omega) (z7w HO)) (World.grownBy.trans (World.grownBy_alloc W _ _) hg) ?_;rcases hat with hat|hat
 · exact .inl hat
 · exact .inr ⟨_,hat,by simp⟩
end
theorem z87 {w:World} {g:Nat} {t:TypeId} {cs:Array Value} (h:w.heap[g]?=some (.cells cs t (0,0))) (i:Nat) (u:Value):(w.setCell ⟨g,i,none⟩ u).heap[g]?=some (.cells (cs.setIfInBounds i u) t (0,0)):=by
 simp[World.setCell,Array.getElem?_modify,h]
theorem z0w {w:World} {g:Nat} {t:TypeId} {cs:Array Value} (h:w.heap[g]?=some (.cells cs t (0,0))) {p:Addr} (hp:g≠p.block) (u:Value):(w.setCell p u).heap[g]?=some (.cells cs t (0,0)):=(Below.heap_setCell w p u g hp).trans h
theorem z1u {w:World} {g:Nat} {o:Obj} (h:w.heap[g]?=some o):g<w.heap.size:=(Array.getElem?_eq_some_iff.1 h).1
theorem z01 {w:World} {g:Nat} {t:TypeId} {cs:Array Value} (h:w.heap[g]?=some (.cells cs t (0,0))) (i:Nat):w.cell? ⟨g,i,none⟩=cs[i]?:=cell_of_row w g i cs t (0,0) h
theorem z03 {w:World} {g:Nat} {t:TypeId} {cs:Array Value} (h:w.heap[g]?=some (.cells cs t (0,0))) (i:Nat):w.frozen? ⟨g,i,none⟩=false:=by simp[World.frozen?,h]
theorem z42 {w w1:World} {g:Nat} {o:Obj} {row:Option Nat} (h:w.heap[g]?=some o) (hg:w.grownBy w1 row) (hne:some g≠row):w1.heap[g]?=some o:=(hg.block g (z1u h) hne).trans h
def z0v (w w':World) (g:Nat) (row:Option Nat):Prop:=w.heap.size≤w'.heap.size∧∀i,i<w.heap.size→i≠g→some i≠row→w'.heap[i]?=w.heap[i]?
theorem z0v.refl (w:World) (g:Nat) (row:Option Nat):z0v w w g row:=⟨Nat.le_refl _,fun _ _ _ _=>rfl⟩
theorem z0v.of_grown {w w1:World} {row:Option Nat} (h:w.grownBy w1 row) (g:Nat):z0v w w1 g row:=⟨h.size,fun i hi _ hr=>h.block i hi hr⟩
theorem z0v.of_below {w w1:World} (h:Below w.heap.size w w1) (g:Nat) (row:Option Nat):z0v w w1 g row:=⟨h.size,fun i hi _ _=>h.block i hi⟩
theorem z0v.set_ {w w1:World} {g:Nat} {row:Option Nat} (h:z0v w w1 g row) (j:Nat) (u:Value):z0v w (w1.setCell ⟨g,j,none⟩ u) g row :=
 ⟨by simpa [World.setCell] using h.1,fun i hi hg hr=>(Below.heap_setCell w1 ⟨g,j,none⟩ u i hg).trans (h.2 i hi hg hr)⟩
theorem z0v.trans {w w1 w2:World} {g:Nat} {row row1:Option Nat} (h:z0v w w1 g row) (k:z0v w1 w2 g row1) (hr:row1=row∨∃b,row1=some b∧w.heap.size≤b):z0v w w2 g row :=
 ⟨Nat.le_trans h.1 k.1,fun i hi hg hn=>by
  refine(k.2 i (Nat.lt_of_lt_of_le hi h.1) hg ?_).trans (h.2 i hi hg hn);rcases hr with rfl|⟨b,rfl,hb⟩
  · exact hn
  · intro e;injection e with e
    omega⟩
theorem z0v.blk {w w1:World} {g g':Nat} {row:Option Nat} {o:Obj} (h:z0v w w1 g row) (hb:w.heap[g']?=some o) (hg:g'≠g) (hr:some g'≠row):w1.heap[g']?=some o:=(h.2 g' (z1u hb) hg hr).trans hb
def Ev {α:Type} (g:Nat→Option α) (r:α):Prop:=∃K,∀k,K≤k→g k=some r
section
variable {P:Program} {ops:Array Oper} {o:Oper} {a:Act} {Q:Exit→Act→World→Prop} {K:Act→World→Prop}
theorem z7d {w0 W:World} (base:Nat) (hw:Region.wanted o (yielded ops a.tmps)=true) (s x:Operand) (t e:TypeId) (z:Value) (size bytes:Nat)
 (ho:o.op=.call { callee:=.builtin .append,args:=#[s,x],argTypes:=#[t,t]})
 (ht:P.underlying t=some (.slice e)) (hinfo:(P.info? e).map (fun i=>(i.zero,i.size,i.bytes))=some (some z,size,bytes)) (hz:z.cells.size=size) (hs0:0<size) (hb0:0<bytes)
 (v:Value) (n:Nat) (xs ys:List Value) (hs:a.eval s=v) (hx:a.eval x=.slice (some ⟨W.heap.size,0,none⟩) 1 1) (hys:ys.length=size) (h1:∀u ∈ ys,u.oneCell'=true)
 (HO:W.ownsRow base e size v n xs) (HB:Below base w0 W) (hbase:base≤W.heap.size) (hl:(n+1) * bytes≤140737488355328)
 (h:∀v1 w1,w1.ownsRow base e size v1 (n+1) (xs++ys)→Below base w0 w1→W.grownBy w1 v.ownBlock→(v1.ownBlock=v.ownBlock∨∃b,v1.ownBlock=some b∧W.heap.size≤b)→K (a.put o.dst v1) w1) :
 if Region.wanted o (yielded ops a.tmps)=true then Oper.wp P o a (W.alloc (.cells ys.toArray e)) K Q else K (a.put o.dst undef) (W.alloc (.cells ys.toArray e)):=by
 obtain⟨i0,hi,hzz⟩:=Option.map_eq_some_iff.1 hinfo;simp only[Prod.mk.injEq]at hzz;obtain⟨hz0,hz1,hz2⟩:=hzz;have hlen:n+1≤140737488355328:=Nat.le_trans (Nat.le_mul_of_pos_right _ hb0) hl;rw[if_pos hw];obtain⟨v1,w1,hr,hown,hg,_,hat⟩:=run_append_own_at (P:=P) (W.alloc (.cells ys.toArray e)) base t o.type e i0 z size bytes ht hi hz0 hz1 hz2 hz hs0 v n xs (HO.alloc _) ⟨W.heap.size,0,none⟩ 1 1 ys (by rw[hys];simp)
  (by simpa using World.news_of_block (cs:=ys.toArray) (t:=e) (fr:=(0,0)) (heap_alloc_new W (.cells ys.toArray e))) h1 (by simp only[maxLen];omega) hl (by simp;omega)
 unfold Oper.wp execOp;simp only[ho,resolve,invoke,builtin,Sem.run_bind,Sem.run_pure,Result.andThen_ok,List.map_toArray,List.map_cons,List.map_nil,hs,hx,hr];refine h v1 w1 hown ((HB.alloc hbase _).grown hg (by simp;omega) (z7w HO)) (World.grownBy.trans (World.grownBy_alloc W _ _) hg) ?_;rcases hat with hat|hat
 · exact .inl hat
 · exact .inr ⟨_,hat,by simp⟩
end
theorem zey {w:World} {base base':Nat} {e:TypeId} {size n:Nat} {v:Value} {xs:List Value} (h:w.ownsRow base e size v n xs) (hb:base'≤base):w.ownsRow base' e size v n xs:=by
 obtain⟨h1,h2⟩:=h;refine⟨h1,?_⟩;rcases h2 with h2|⟨g,cap,cur,rfl,hg,r⟩
 · exact .inl h2
 · exact .inr ⟨g,cap,cur,rfl,Nat.le_trans hb hg,r⟩
section
variable {α:Type} {enc:α→Value} {d:α}
def encs (enc:α→Value) (xs:List α):List Value:=xs.map enc
def rdOf (d:α) (xs:List α) (i:Int):α:=xs.getD i.toNat d
theorem zdc (xs:List α):(encs enc xs).length=xs.length:=by simp[encs]
def za6 (enc:α→Value) (d:α) (w:World) (A:Option Addr) (n:Nat) (xs:List α):Prop :=
 xs.length=n∧n≤9223372036854775807∧(0<n→∃ad,A=some ad∧∀j,j<n→w.cell? (ad.add j)=some (enc (xs.getD j d)))
theorem za6.at_ {w:World} {A:Option Addr} {n:Nat} {xs:List α} (h:za6 enc d w A n xs) (i:Int) (h0:0≤i) (h1:i<n):∃ad,A=some ad∧w.cell? (ad.add i.toNat)=some (enc (rdOf d xs i)):=by
 obtain⟨ad,e,hc⟩:=h.2.2 (by omega);exact⟨ad,e,hc _ (by omega)⟩
end
theorem z06 {w:World} {g:Nat} {o:Obj} (h:w.heap[g]?=some o) (o':Obj):(w.alloc o').heap[g]?=some o:=(Below.heap_alloc w o' g (z1u h)).trans h
theorem z09 {w:World} {g:Nat} {o:Obj} (h:w.heap[g]?=some o):w.drew.heap[g]?=some o:=h
theorem z07 {w:World} {g:Nat} {o:Obj} (h:w.heap[g]?=some o) (n:Nat):(w.drewN n).heap[g]?=some o:=h
theorem z0h {w w1:World} {g:Nat} {o:Obj} (h:w.heap[g]?=some o) (hb:Below w.heap.size w w1):w1.heap[g]?=some o:=(hb.block g (z1u h)).trans h
theorem z1h (w:World) (o:Obj):(w.alloc o).heap[w.heap.size]?=some o:=heap_alloc_new w o
section
variable {P:Program}
theorem z1w {fn:Func} {p u:Tmp} {ty:TypeId} (h:fn.results=#[.cell p ty,.tmp u]) (tmps:Array Value) (w:World) (g:Nat) (t:TypeId) (cs:Array Value) (fr:Nat × Nat) (d:TypeDesc)
 (hp:tmps.getD p undef=.pointer (some ⟨g,0,none⟩)) (hg:w.heap[g]?=some (.cells cs t fr))
 (hu:P.underlying ty=some d) (hd:(match d with|.struct _|.array _ _=>true|_=>false)=true) (hi:(P.info? ty).map (·.size)=some cs.size) :
 (results fn tmps).run P w=.ok (.tuple #[.agg cs,tmps.getD u undef]) w:=by
 have hp':tmps[p]?.getD undef=.pointer (some ⟨g,0,none⟩):=by simpa using hp
 simp[results,h,hp',asAddr,run_loadVar_row w g t ty cs fr d hg hu hd hi]
theorem zcm {fn:Func} {p u v:Tmp} {ty:TypeId} (h:fn.results=#[.cell p ty,.tmp u,.tmp v]) (tmps:Array Value) (w:World) (g:Nat) (t:TypeId) (cs:Array Value) (fr:Nat × Nat) (d:TypeDesc)
 (hp:tmps.getD p undef=.pointer (some ⟨g,0,none⟩)) (hg:w.heap[g]?=some (.cells cs t fr))
 (hu:P.underlying ty=some d) (hd:(match d with|.struct _|.array _ _=>true|_=>false)=true) (hi:(P.info? ty).map (·.size)=some cs.size) :
 (results fn tmps).run P w=.ok (.tuple #[.agg cs,tmps.getD u undef,tmps.getD v undef]) w:=by
 have hp':tmps[p]?.getD undef=.pointer (some ⟨g,0,none⟩):=by simpa using hp
 simp[results,h,hp',asAddr,run_loadVar_row w g t ty cs fr d hg hu hd hi]
end
theorem own_le {w:World} {base n m c size:Nat} {e:TypeId} {A:Option Addr} {xs:List Value} (h:w.ownsRow base e size (.slice A m c) n xs):m≤c:=by
 rcases h.2 with ⟨he,_⟩|⟨g,cap,cur,he,_,_,hnc,_⟩
 · injection he with _ h2 h3
   omega
 · injection he with _ h2 h3
   omega
def z6n {α:Type} (R:α→List Value→Prop) (e:TypeId) (size:Nat) (w:World) (base:Nat) (v:Value) (ps:List α):Prop :=
 ∃inner,w.ownsRow base e size v ps.length inner∧Reps R size ps inner
section
variable {α:Type} {R R':α→List Value→Prop} {e:TypeId} {size:Nat} {w w1:World} {base:Nat} {v:Value} {ps:List α}
theorem z6n.none_ (R:α→List Value→Prop) (e:TypeId) (size:Nat) (w:World) (base:Nat):z6n R e size w base (.slice none 0 0) []:=⟨[],own_nil _ _ _ _,Reps.none _ _⟩
theorem z6n.imp_ (h:z6n R e size w base v ps) (hR:∀p c,R p c→R' p c):z6n R' e size w base v ps:=by
 obtain⟨inner,ho,hr⟩:=h;exact⟨inner,ho,hr.imp_ hR⟩
theorem z6n.reads (h:z6n R e size w base v ps):∃A c,v=.slice A ps.length c∧ps.length≤c∧z3m R size w A ps.length ps:=by
 obtain⟨inner,ho,hr⟩:=h;obtain⟨A,c,rfl,hrow⟩:=zac ho hr rfl;exact⟨A,c,rfl,own_le ho,hrow⟩
end
theorem z3m.inner_ {α:Type} {R:α→List Value→Prop} {size:Nat} {w:World} {ad:Addr} {n:Nat} {ps:List α} (h:z3m R size w (some ad) n ps) :
 ∃inner,Reps R size ps inner∧∀j u,inner[j]?=some u→w.cell? (ad.add j)=some u:=by
 have key:∀m,m≤ps.length→∃inner,Reps R size (ps.take m) inner∧∀j u,inner[j]?=some u→w.cell? (ad.add j)=some u:=by
  intro m
  induction m with
  |zero=>exact fun _=>⟨[],Reps.none _ _,fun j u hu=>by simp at hu⟩
  |succ m ih =>
   intro hm;obtain⟨inner,hr,hc⟩:=ih (by omega);obtain⟨ad',he,hcell⟩:=h.2.2 (by have:=h.1;omega);injection he with he
   subst he;obtain⟨c,hcl,hp,hcc⟩:=hcell m _ (List.getElem?_eq_getElem (show m<ps.length by omega));refine⟨inner++c,?_,fun j u hu=>?_⟩
   · rw[List.take_succ_eq_append_getElem (show m<ps.length by omega)];exact hr.snoc hp hcl
   · have hil:inner.length=m * size:=by rw[hr.1,List.length_take,Nat.min_eq_left (by omega)]
     rcases Nat.lt_or_ge j inner.length with hj|hj
     · rw[List.getElem?_append_left hj]at hu;exact hc j u hu
     · rw[List.getElem?_append_right hj]at hu;have:=hcc (j - inner.length) u hu
       rwa [hil,Nat.add_sub_cancel' (by omega)]at this
 obtain⟨inner,hr,hc⟩:=key ps.length (Nat.le_refl _);rw[List.take_length]at hr;exact⟨inner,hr,hc⟩
structure Kd (α:Type) where
 sz:Nat
 E:List Nat
 K:World→α→List Value→Prop
 M:World→Nat→(Nat→Prop)→α→List Value→Prop
 K_len:∀{w x cs},K w x cs→cs.length=sz
 K_one:∀{w x cs},K w x cs→∀u ∈ cs,u.oneCell'=true
 K_below:∀{w w1:World} {x cs},Below w.heap.size w w1→K w x cs→K w1 x cs
 K_of_M:∀{w base ok x cs},M w base ok x cs→K w x cs
 M_mono:∀{w base ok ok' x cs},(∀k,ok k→ok' k)→M w base ok x cs→M w base ok' x cs
 M_bound:∀{w:World} {base ok x cs},M w base ok x cs→M w base (fun k=>ok k∧base≤k∧k<w.heap.size∧∃q,q ∈ E∧∃cells,w.heap[k]?=some (.cells cells q (0,0))) x cs
 M_move:∀{w w1:World} {base ok x cs},(∀k,ok k→w1.heap[k]?=w.heap[k]?)→M w base ok x cs→M w1 base ok x cs
 M_lower:∀{w base base' ok x cs},base'≤base→M w base ok x cs→M w base' ok x cs
theorem own_move {w w1:World} {base:Nat} {e:TypeId} {size n:Nat} {v:Value} {xs:List Value} (h:w.ownsRow base e size v n xs) (hm:∀k,v.ownBlock=some k→w1.heap[k]?=w.heap[k]?):w1.ownsRow base e size v n xs:=by
 obtain⟨h1,h2⟩:=h;refine⟨h1,?_⟩;rcases h2 with h2|⟨g,cap,cur,rfl,hg,hh,r⟩
 · exact .inl h2
 · exact .inr ⟨g,cap,cur,rfl,hg,(hm g (by simp[Value.ownBlock])).trans hh,r⟩
theorem zg9 {w:World} {base:Nat} {e:TypeId} {size n:Nat} {v:Value} {xs:List Value} (h:w.ownsRow base e size v n xs) (k:Nat) (hk:v.ownBlock=some k):∃cells,w.heap[k]?=some (.cells cells e (0,0)):=by
 rcases h.2 with ⟨rfl,_⟩|⟨g,cap,cur,rfl,hg,hh,r⟩
 · simp[Value.ownBlock]at hk
 · have:g=k:=by simpa [Value.ownBlock] using hk
   subst this;exact⟨cur,hh⟩
namespace Kd
def C {α:Type} (d:Kd α) (w:World) (A:Option Addr) (n:Nat) (xs:List α):Prop:=z3m (d.K w) d.sz w A n xs
def R {α:Type} (d:Kd α) (e:Nat) (w:World) (base:Nat) (ok:Nat→Prop) (v:Value) (xs:List α):Prop :=
 (∀k,v.ownBlock=some k→ok k)∧z6n (d.M w base (fun k=>ok k∧some k≠v.ownBlock)) e d.sz w base v xs
section
variable {α:Type} {d:Kd α} {e:Nat} {w w1:World} {base:Nat} {ok ok':Nat→Prop} {v:Value} {xs:List α}
theorem C_below {A:Option Addr} {n:Nat} (h:d.C w A n xs) (hb:Below w.heap.size w w1):d.C w1 A n xs:=z3m.imp_ h hb (fun _ _ hp=>d.K_below hb hp)
theorem R_nil (d:Kd α) (e:Nat) (w:World) (base:Nat) (ok:Nat→Prop):d.R e w base ok (.slice none 0 0) []:=⟨fun k hk=>by simp[Value.ownBlock]at hk,z6n.none_ _ _ _ _ _⟩
theorem R_mono (h:d.R e w base ok v xs) (hok:∀k,ok k→ok' k):d.R e w base ok' v xs:=⟨fun k hk=>hok k (h.1 k hk),h.2.imp_ (fun _ _ hp=>d.M_mono (fun k hk=>⟨hok k hk.1,hk.2⟩) hp)⟩
theorem R_bound (h:d.R e w base ok v xs):d.R e w base (fun k=>ok k∧base≤k∧k<w.heap.size∧∃q,q ∈ e::d.E∧∃cells,w.heap[k]?=some (.cells cells q (0,0))) v xs:=by
 obtain⟨h0,inner,ho,hr⟩:=h;refine⟨fun k hk=>?_,inner,ho,hr.imp_ (fun _ _ hp=>d.M_mono (fun k hk=>?_) (d.M_bound hp))⟩
 · obtain⟨cells,hc⟩:=zg9 ho k hk;exact⟨h0 k hk,z7w ho k hk,own_lt ho k hk,e,List.mem_cons_self,cells,hc⟩
 · obtain⟨⟨h1,h2⟩,h3,h4,q,hq,hc⟩:=hk;exact⟨⟨h1,h3,h4,q,List.mem_cons_of_mem _ hq,hc⟩,h2⟩
theorem zg5 (h:d.R e w base ok v xs) (hm:∀k,ok k→w1.heap[k]?=w.heap[k]?):d.R e w1 base ok v xs:=by
 obtain⟨h0,inner,ho,hr⟩:=h;exact⟨h0,inner,own_move ho (fun k hk=>hm k (h0 k hk)),hr.imp_ (fun _ _ hp=>d.M_move (fun k hk=>hm k hk.1) hp)⟩
theorem R_lower {base':Nat} (h:d.R e w base ok v xs) (hb:base'≤base):d.R e w base' ok v xs:=by
 obtain⟨h0,inner,ho,hr⟩:=h;exact⟨h0,inner,zey ho hb,hr.imp_ (fun _ _ hp=>d.M_lower hb hp)⟩
theorem zg0 (h:d.R e w base ok v xs) (hm:∀k,ok k→k<w.heap.size→w1.heap[k]?=w.heap[k]?):d.R e w1 base ok v xs :=
 R_mono (zg5 (R_bound h) (fun k hk=>hm k hk.1 hk.2.2.1)) (fun _ hk=>hk.1)
theorem M_step {x:α} {cs:List Value} (h:d.M w base ok x cs) (hm:∀k,ok k→k<w.heap.size→w1.heap[k]?=w.heap[k]?):d.M w1 base ok x cs :=
 d.M_mono (fun _ hk=>hk.1) (d.M_move (fun k hk=>hm k hk.1 hk.2.2.1) (d.M_bound h))
theorem R_below (h:d.R e w base ok v xs) (hb:Below w.heap.size w w1):d.R e w1 base ok v xs:=zg0 h (fun k _ hk=>hb.block k hk)
theorem zfe {x:α} {cs:List Value} (h:d.M w base ok x cs) (hb:Below w.heap.size w w1):d.M w1 base ok x cs:=M_step h (fun k _ hk=>hb.block k hk)
theorem R_far (h:d.R e w base ok v xs) {p:Addr} (hok:∀k,ok k→k≠p.block) (u:Value):d.R e (w.setCell p u) base ok v xs:=zg0 h (fun k ho _=>Below.heap_setCell w p u k (hok k ho))
theorem R_keep (h:d.R e w base ok v xs) {g:Nat} (hk:z0v w w1 g none) (hok:∀k,ok k→k≠g):d.R e w1 base ok v xs:=zg0 h (fun k ho hlt=>hk.2 k hlt (hok k ho) (by simp))
theorem zdg (h:d.R e w base ok v xs):∃A c,v=.slice A xs.length c∧xs.length≤c∧d.C w A xs.length xs:=by
 obtain⟨A,c,he,hl,hr⟩:=z6n.reads h.2;exact⟨A,c,he,hl,hr.imp_ (Below.refl _ _) (fun _ _ hp=>d.K_of_M hp)⟩
theorem R_slice (h:d.R e w base ok v xs):∃A c,v=.slice A xs.length c:=by
 obtain⟨A,c,he,_⟩:=zdg h;exact⟨A,c,he⟩
theorem R_own (h:d.R e w base ok v xs):∃inner,w.ownsRow base e d.sz v xs.length inner:=by
 obtain⟨_,inner,ho,_⟩:=h;exact⟨inner,ho⟩
end
def z7q {α:Type} (enc:α→Value) (h1:∀x,(enc x).oneCell'=true):Kd α where
 sz:=1
 E:=[]
 K:=fun _ x cs=>cs=[enc x]
 M:=fun _ _ _ x cs=>cs=[enc x]
 K_len:=fun h=>by rw[h];rfl
 K_one:=fun h u hu=>by
  rw[h]at hu;rw[List.mem_singleton.1 hu];exact h1 _
 K_below:=fun _ h=>h
 K_of_M:=fun h=>h
 M_mono:=fun _ h=>h
 M_bound:=fun h=>h
 M_move:=fun _ h=>h
 M_lower:=fun _ h=>h
def int (k:IntKind):Kd Int:=z7q (Value.int k) (fun _=>rfl)
def bool:Kd Bool:=z7q Value.bool (fun _=>rfl)
def string:Kd ByteArray:=z7q Value.string (fun _=>rfl)
def slice {α:Type} (e:Nat) (d:Kd α):Kd (List α) where
 sz:=1
 E:=e::d.E
 K:=fun w xs cs=>∃A c,cs=[.slice A xs.length c]∧xs.length≤c∧d.C w A xs.length xs
 M:=fun w base ok xs cs=>∃v,cs=[v]∧d.R e w base ok v xs
 K_len:=by
  rintro w x cs ⟨A,c,rfl,_⟩;rfl
 K_one:=by
  rintro w x cs ⟨A,c,rfl,_⟩ u hu;rw[List.mem_singleton.1 hu];rfl
 K_below:=by
  rintro w w1 x cs hb ⟨A,c,rfl,hl,hr⟩;exact⟨A,c,rfl,hl,C_below hr hb⟩
 K_of_M:=by
  rintro w base ok x cs ⟨v,rfl,h⟩;obtain⟨A,c,rfl,hl,hr⟩:=zdg h;exact⟨A,c,rfl,hl,hr⟩
 M_mono:=by
  rintro w base ok ok' x cs hok ⟨v,rfl,h⟩;exact⟨v,rfl,R_mono h hok⟩
 M_bound:=by
  rintro w base ok x cs ⟨v,rfl,h⟩;exact⟨v,rfl,R_bound h⟩
 M_move:=by
  rintro w w1 base ok x cs hm ⟨v,rfl,h⟩;exact⟨v,rfl,zg5 h hm⟩
 M_lower:=by
  rintro w base base' ok x cs hb ⟨v,rfl,h⟩;exact⟨v,rfl,R_lower h hb⟩
def pair {α β:Type} (a:Kd α) (b:Kd β):Kd (α × β) where
 sz:=a.sz+b.sz
 E:=a.E++b.E
 K:=fun w x cs=>∃c0 c1,cs=c0++c1∧a.K w x.1 c0∧b.K w x.2 c1
 M:=fun w base ok x cs=>∃c0 c1,cs=c0++c1∧a.M w base ok x.1 c0∧b.M w base ok x.2 c1
 K_len:=by
  rintro w x cs ⟨c0,c1,rfl,h0,h1⟩;rw[List.length_append,a.K_len h0,b.K_len h1]
 K_one:=by
  rintro w x cs ⟨c0,c1,rfl,h0,h1⟩ u hu;rcases List.mem_append.1 hu with hu|hu
  · exact a.K_one h0 u hu
  · exact b.K_one h1 u hu
 K_below:=by
  rintro w w1 x cs hb ⟨c0,c1,rfl,h0,h1⟩;exact⟨c0,c1,rfl,a.K_below hb h0,b.K_below hb h1⟩
 K_of_M:=by
  rintro w base ok x cs ⟨c0,c1,rfl,h0,h1⟩;exact⟨c0,c1,rfl,a.K_of_M h0,b.K_of_M h1⟩
 M_mono:=by
  rintro w base ok ok' x cs hok ⟨c0,c1,rfl,h0,h1⟩;exact⟨c0,c1,rfl,a.M_mono hok h0,b.M_mono hok h1⟩
 M_bound:=by
  rintro w base ok x cs ⟨c0,c1,rfl,h0,h1⟩;refine⟨c0,c1,rfl,a.M_mono ?_ (a.M_bound h0),b.M_mono ?_ (b.M_bound h1)⟩
  · rintro k ⟨h2,h3,h4,q,hq,hc⟩;exact⟨h2,h3,h4,q,List.mem_append_left _ hq,hc⟩
  · rintro k ⟨h2,h3,h4,q,hq,hc⟩;exact⟨h2,h3,h4,q,List.mem_append_right _ hq,hc⟩
 M_move:=by
  rintro w w1 base ok x cs hm ⟨c0,c1,rfl,h0,h1⟩;exact⟨c0,c1,rfl,a.M_move hm h0,b.M_move hm h1⟩
 M_lower:=by
  rintro w base base' ok x cs hb ⟨c0,c1,rfl,h0,h1⟩;exact⟨c0,c1,rfl,a.M_lower hb h0,b.M_lower hb h1⟩
def iso {α β:Type} (d:Kd α) (f:β→α):Kd β where
 sz:=d.sz
 E:=d.E
 K:=fun w x cs=>d.K w (f x) cs
 M:=fun w base ok x cs=>d.M w base ok (f x) cs
 K_len:=d.K_len
 K_one:=d.K_one
 K_below:=d.K_below
 K_of_M:=d.K_of_M
 M_mono:=d.M_mono
 M_bound:=d.M_bound
 M_move:=d.M_move
 M_lower:=d.M_lower
theorem C_get {α:Type} {d:Kd α} {w:World} {A:Option Addr} {n:Nat} {xs:List α} (h:d.C w A n xs) (z:α) (i:Int) (h0:0≤i) (h1:i<n) :
 ∃ad c,A=some ad∧c.length=d.sz∧d.K w (xs.getD i.toNat z) c∧∀j u,c[j]?=some u→w.cell? (ad.add (i.toNat * d.sz+j))=some u:=z3m.get_ h z i h0 h1
theorem za3 {α:Type} {d:Kd α} {e base:Nat} {ok okp:Nat→Prop} {W w1:World} {v v1:Value} {xs:List α} {p:α} {inner cs:List Value} (h0:∀k,v.ownBlock=some k→ok k) (hr:Reps (d.M W base (fun k=>ok k∧some k≠v.ownBlock)) d.sz xs inner) (hp:d.M W base okp p cs) (hokp:∀k,okp k→ok k∧some k≠v.ownBlock) (hfresh:∀k,W.heap.size≤k→ok k)
 (hown:w1.ownsRow base e d.sz v1 (xs.length+1) (inner++cs)) (hg:W.grownBy w1 v.ownBlock) (hat:v1.ownBlock=v.ownBlock∨∃b,v1.ownBlock=some b∧W.heap.size≤b):d.R e w1 base ok v1 (xs++[p]):=by
 have hne:∀k,some k≠v.ownBlock→k<W.heap.size→some k≠v1.ownBlock:=by
  intro k hk hlt;rcases hat with hat|⟨b,hb,hle⟩
  · rw[hat];exact hk
  · rw[hb];intro he;injection he with he
    omega
 have step:∀{q:α} {c:List Value} {o:Nat→Prop},d.M W base o q c→(∀k,o k→ok k∧some k≠v.ownBlock)→d.M w1 base (fun k=>ok k∧some k≠v1.ownBlock) q c:=by
  intro q c o hq ho;have h1:=d.M_move (w1:=w1) (fun k hk=>hg.block k hk.2.2.1 (ho k hk.1).2) (d.M_bound hq);exact d.M_mono (fun k hk=>⟨(ho k hk.1).1,hne k (ho k hk.1).2 hk.2.2.1⟩) h1
 refine⟨fun k hk=>?_,inner++cs,by rw[List.length_append,List.length_singleton];exact hown,?_⟩
 · rcases hat with hat|⟨b,hb,hle⟩
   · exact h0 k (hat ▸ hk)
   · rw[hb]at hk;injection hk with hk
     exact hfresh k (by omega)
 · exact(hr.imp_ (fun _ _ hq=>step hq (fun _ hk=>hk))).snoc (step hp hokp) (d.K_len (d.K_of_M hp))
section
variable {P:Program} {ops:Array Oper} {rest:List Oper} {o:Oper} {a:Act} {Q:Exit→Act→World→Prop} {α:Type}
theorem R_append (d:Kd α) {w0 W:World} (base:Nat) (hgd:o.guard=none) (s x:Operand) (t e:TypeId) (z:Value) (bytes:Nat)
 (ho:o.op=.call { callee:=.builtin .append,args:=#[s,x],argTypes:=#[t,t]})
 (ht:P.underlying t=some (.slice e)) (hinfo:(P.info? e).map (fun i=>(i.zero,i.size,i.bytes))=some (some z,d.sz,bytes)) (hz:z.cells.size=d.sz) (hs0:0<d.sz) (hb0:0<bytes)
 (v:Value) (xs:List α) (p:α) (cs:List Value) (ok okp:Nat→Prop) (hs:a.eval s=v) (hx:a.eval x=.slice (some ⟨W.heap.size,0,none⟩) 1 1) (hp:d.M W base okp p cs) (hokp:∀k,okp k→ok k∧some k≠v.ownBlock) (hfresh:∀k,W.heap.size≤k→ok k)
 (HO:d.R e W base ok v xs) (HB:Below base w0 W) (hbase:base≤W.heap.size) (hl:(xs.length+1) * bytes≤140737488355328)
 (h:∀v1 w1,d.R e w1 base ok v1 (xs++[p])→Below base w0 w1→W.grownBy w1 v.ownBlock→(v1.ownBlock=v.ownBlock∨∃b,v1.ownBlock=some b∧W.heap.size≤b)→wpList P ops Q rest (a.put o.dst v1) w1) :
 wpList P ops Q (o::rest) a (W.alloc (.cells cs.toArray e)):=by
 obtain⟨h0,inner,hown,hr⟩:=HO;refine z6u base hgd s x t e z d.sz bytes ho ht hinfo hz hs0 hb0 v xs.length inner cs hs hx (d.K_len (d.K_of_M hp)) (d.K_one (d.K_of_M hp)) hown HB hbase hl ?_;intro v1 w1 hown1 hb1 hg1 hat1;exact h v1 w1 (za3 h0 hr hp hokp hfresh hown1 hg1 hat1) hb1 hg1 hat1
end
section
variable {P:Program} {ops:Array Oper} {o:Oper} {a:Act} {Q:Exit→Act→World→Prop} {Kc:Act→World→Prop} {α:Type}
theorem R_append_step (d:Kd α) {w0 W:World} (base:Nat) (hw:Region.wanted o (yielded ops a.tmps)=true) (s x:Operand) (t e:TypeId) (z:Value) (bytes:Nat)
 (ho:o.op=.call { callee:=.builtin .append,args:=#[s,x],argTypes:=#[t,t]})
 (ht:P.underlying t=some (.slice e)) (hinfo:(P.info? e).map (fun i=>(i.zero,i.size,i.bytes))=some (some z,d.sz,bytes)) (hz:z.cells.size=d.sz) (hs0:0<d.sz) (hb0:0<bytes)
 (v:Value) (xs:List α) (p:α) (cs:List Value) (ok okp:Nat→Prop) (hs:a.eval s=v) (hx:a.eval x=.slice (some ⟨W.heap.size,0,none⟩) 1 1) (hp:d.M W base okp p cs) (hokp:∀k,okp k→ok k∧some k≠v.ownBlock) (hfresh:∀k,W.heap.size≤k→ok k)
 (HO:d.R e W base ok v xs) (HB:Below base w0 W) (hbase:base≤W.heap.size) (hl:(xs.length+1) * bytes≤140737488355328)
 (h:∀v1 w1,d.R e w1 base ok v1 (xs++[p])→Below base w0 w1→W.grownBy w1 v.ownBlock→(v1.ownBlock=v.ownBlock∨∃b,v1.ownBlock=some b∧W.heap.size≤b)→Kc (a.put o.dst v1) w1) :
 if Region.wanted o (yielded ops a.tmps)=true then Oper.wp P o a (W.alloc (.cells cs.toArray e)) Kc Q else Kc (a.put o.dst undef) (W.alloc (.cells cs.toArray e)):=by
 obtain⟨h0,inner,hown,hr⟩:=HO;refine z7d base hw s x t e z d.sz bytes ho ht hinfo hz hs0 hb0 v xs.length inner cs hs hx (d.K_len (d.K_of_M hp)) (d.K_one (d.K_of_M hp)) hown HB hbase hl ?_;intro v1 w1 hown1 hb1 hg1 hat1;exact h v1 w1 (za3 h0 hr hp hokp hfresh hown1 hg1 hat1) hb1 hg1 hat1
end
theorem own_of_R {α:Type} {enc:α→Value} {h1:∀x,(enc x).oneCell'=true} {e:Nat} {w:World} {base:Nat} {ok:Nat→Prop} {v:Value} {xs:List α} (h:(z7q enc h1).R e w base ok v xs):w.ownsRow base e 1 v xs.length (encs enc xs):=by
 obtain⟨_,inner,ho,hr⟩:=h;have:inner=encs enc xs:=by
  apply List.ext_getElem?;intro j;rcases Nat.lt_or_ge j xs.length with hj|hj
  · have h2:=hr.2 j _ (List.getElem?_eq_getElem hj);have hl:j<inner.length:=by have:=hr.1;simp[z7q]at this;omega
    have h3:(inner.drop (j * 1)).take 1=[enc xs[j]]:=h2;rw[Nat.mul_one,List.drop_eq_getElem_cons hl]at h3;have h4:inner[j]=enc xs[j]:=by
     have h5:=congrArg List.head? h3;rw[List.take_succ_cons]at h5;exact Option.some.inj h5
    rw[List.getElem?_eq_getElem hl,h4]
    simp[encs,List.getElem?_eq_getElem hj]
  · have h3:inner.length=xs.length:=by have:=hr.1;simp[z7q]at this;omega
    rw[List.getElem?_eq_none (by omega),List.getElem?_eq_none (by rw[zdc];omega)]
 rw[←this];exact ho
theorem zev {α:Type} {enc:α→Value} {d:α} {h1:∀x,(enc x).oneCell'=true} {w:World} {A:Option Addr} {n:Nat} {xs:List α} (h:(z7q enc h1).C w A n xs):za6 enc d w A n xs:=by
 refine⟨h.1,h.2.1,fun hn=>?_⟩;obtain⟨ad,e,hc⟩:=h.2.2 hn;refine⟨ad,e,fun j hj=>?_⟩;have hl:j<xs.length:=by have:=h.1;omega
 obtain⟨c,_,hK,hcell⟩:=hc j _ (List.getElem?_eq_getElem hl);have hK':c=[enc xs[j]]:=hK;subst hK';have:=hcell 0 _ rfl
 simpa [z7q,List.getD_eq_getElem?_getD,List.getElem?_eq_getElem hl] using this
end Kd
namespace Kd
structure Mono {α β:Type} (F:Kd α→Kd β):Prop where
 sz:∀d d':Kd α,d.sz=d'.sz→(F d).sz=(F d').sz
 K:∀d d':Kd α,d.sz=d'.sz→(∀w x cs,d.K w x cs→d'.K w x cs)→∀w x cs,(F d).K w x cs→(F d').K w x cs
 M:∀d d':Kd α,d.sz=d'.sz→(∀w base ok x cs,d.M w base ok x cs→d'.M w base ok x cs)→∀w base ok x cs,(F d).M w base ok x cs→(F d').M w base ok x cs
end Kd
namespace Kd
theorem R_after {α:Type} {d:Kd α} {e base:Nat} {ok:Nat→Prop} {W w1:World} {u v v1:Value} {xs:List α} (h:d.R e W base (fun k=>ok k∧some k≠v.ownBlock) u xs) (hg:W.grownBy w1 v.ownBlock) (hat:v1.ownBlock=v.ownBlock∨∃b,v1.ownBlock=some b∧W.heap.size≤b):d.R e w1 base (fun k=>ok k∧some k≠v1.ownBlock) u xs:=by
 refine R_mono (zg5 (R_bound h) (fun k hk=>hg.block k hk.2.2.1 hk.1.2)) (fun k hk=>⟨hk.1.1,?_⟩);rcases hat with hat|⟨b,hb,hle⟩
 · rw[hat];exact hk.1.2
 · rw[hb];intro he;injection he with he
   have:=hk.2.2.1;omega
theorem R_apart_nil {α:Type} {d:Kd α} {e base:Nat} {ok:Nat→Prop} {w:World} {u:Value} {xs:List α} (h:d.R e w base ok u xs):d.R e w base (fun k=>ok k∧some k≠(Value.slice none 0 0).ownBlock) u xs:=R_mono h (fun k hk=>⟨hk,by simp[Value.ownBlock]⟩)
end Kd
namespace Kd
section
variable {α β:Type} {d:Kd α} {d':Kd β} {e e':Nat} {w w1 W:World} {base b b':Nat} {ok ok' okv oku:Nat→Prop} {v u:Value} {xs:List α} {ys:List β}
theorem R_alloc (h:d.R e w base ok v xs) (o:Obj):d.R e (w.alloc o) base ok v xs:=R_below h (z04 (Below.refl _ _) o)
theorem R_drew (h:d.R e w base ok v xs):d.R e w.drew base ok v xs:=R_below h (zf3 (Below.refl _ _))
theorem R_drewN (h:d.R e w base ok v xs) (m:Nat):d.R e (w.drewN m) base ok v xs:=R_below h (z02 (Below.refl _ _) m)
theorem C_nil (d:Kd α) (w:World):d.C w none ([]:List α).length []:=⟨rfl,by simp,fun h=>absurd h (Nat.lt_irrefl 0)⟩
theorem R_reads' {A:Option Addr} {n c:Nat} (h:d.R e w base ok (.slice A n c) xs):n=xs.length∧n≤c∧d.C w A xs.length xs:=by
 obtain⟨A',c',he,hl,hr⟩:=zdg h;injection he with h1 h2 h3
 subst h1;exact⟨h2,by omega,hr⟩
theorem R_lt (h:d.R e w base ok v xs):∀k,v.ownBlock=some k→k<w.heap.size:=by
 obtain⟨inner,ho⟩:=R_own h;exact own_lt ho
theorem R_away (h:d.R e w base ok v xs) {g:Nat} (hok:∀k,ok k→k≠g):some g≠v.ownBlock:=fun e=>hok g (h.1 g e.symm) rfl
end
section
variable {w W:World} {A:Option Addr} {n:Nat}
theorem at_string {xs:List ByteArray} (h:Kd.string.C w A n xs) (i:Int) (h0:0≤i) (h1:i<n):∃ad,A=some ad∧w.cell? (ad.add i.toNat)=some (.string (rdOf ByteArray.empty xs i)) :=
 za6.at_ (zev (enc:=Value.string) (d:=ByteArray.empty) (h1:=fun _=>rfl) h) i h0 h1
variable {α:Type} {enc:α→Value} {h1:∀x,(enc x).oneCell'=true} {e base g cap:Nat} {ok:Nat→Prop} {xs:List α}
end
section
variable {P:Program} {ops:Array Oper} {rest:List Oper} {o:Oper} {a:Act} {Q:Exit→Act→World→Prop}
theorem event_run {W w1:World} {v:Value} (hgd:o.guard=none) (hrun:(execOp a.eval o).run P W=.ok (.value v) w1) (h:wpList P ops Q rest (a.put o.dst v) w1):wpList P ops Q (o::rest) a W:=by
 refine wpList_plain hgd fun K hK=>?_
 unfold Oper.wp;rw[hrun];exact hK _ _ h
variable {α:Type}
theorem R_lit (d:Kd α) {w0 W:World} (base e:Nat) (hgd:o.guard=none) {N:Tmp} (_hd:o.dst=some N) {xs:List α} {inner:List Value} {ok okp:Nat→Prop}
 (hrun:(execOp a.eval o).run P W=.ok (.value (.slice (some ⟨W.heap.size,0,none⟩) xs.length xs.length)) (W.alloc (.cells inner.toArray e)))
 (hrep:Reps (d.M W base okp) d.sz xs inner) (hok:∀k,okp k→ok k) (hfresh:ok W.heap.size) (HB:Below base w0 W) (hbase:base≤W.heap.size) (hm:xs.length≤9223372036854775807)
 (h:∀v1 w1,d.R e w1 base ok v1 xs→Below base w0 w1→W.grownBy w1 none→(∃b,v1.ownBlock=some b∧W.heap.size≤b)→wpList P ops Q rest (a.put o.dst v1) w1):wpList P ops Q (o::rest) a W:=by
 refine event_run hgd hrun (h _ _ ⟨fun k hk=>?_,inner,?_,?_⟩ (HB.alloc hbase _) (World.grownBy_alloc W _ none) ⟨W.heap.size,by simp[Value.ownBlock],Nat.le_refl _⟩)
 · have:W.heap.size=k:=by simpa [Value.ownBlock] using hk
   subst this;exact hfresh
 · have h2:=World.ownsRow_lit (base:=base) (e:=e) (size:=d.sz) W inner.toArray xs.length hbase (by simpa [maxLen] using hm) (by simpa using hrep.1)
   simpa using h2
 · refine hrep.imp_ (fun p c hp=>d.M_mono (fun k hk=>⟨hok k hk.1,fun he=>?_⟩) (zfe (d.M_bound hp) (z04 (Below.refl _ _) _)));have h3:k=W.heap.size:=by simpa [Value.ownBlock] using he
   have:=hk.2.2.1;omega
end
end Kd
section
variable {P:Program}
theorem zbz (t e:TypeId) (kh:IntKind) {i:TypeInfo} (ht:P.underlying t=some (.slice e)) (hi:P.info? e=some i) (A:Option Addr) (n c:Nat) (j:Int) (h0:0≤j) (hm:j≤n) (hc:n≤c) :
 ∀W:World,(Instr.slice t (.slice A n c) none (some (.int kh j)) none).run P W=.ok (.slice A j.toNat c) W:=by
 intro W;have hel:P.elem t=e:=by simp[Program.elem,ht]
 have hu:P.underlying t=some (.slice (P.elem t)):=by rw[hel];exact ht
 have ha:(A.map fun x=>x.add 0)=A:=by cases A <;> simp[Addr.add]
 rw[run_slice_h W t A n c hu kh j h0 (by omega),hel]
 simp[sizeOf,typeInfo,hi,sliced,Result.andThen,ha]
end
def QRow (w:World) (base:Nat) (e:TypeId) (size:Nat) (v:Value) (n:Nat) (xs:List Value):Prop :=
 xs.length=n * size ∧
 ((n=0∧∃A,v=.slice A 0 0∧∀a,A=some a→base≤a.block∧∃cur,w.heap[a.block]?=some (.cells cur e (0,0))) ∨
  ∃g off cap cur,v=.slice (some ⟨g,off * size,none⟩) n cap∧base≤g∧w.heap[g]?=some (.cells cur e (0,0))∧n≤cap∧off+cap≤maxLen∧cur.size=(off+cap) * size∧(cur.toList.drop (off * size)).take (n * size)=xs)
section
variable {w w1:World} {base n size:Nat} {e:TypeId} {v:Value} {xs:List Value}
theorem q_of_own (h:w.ownsRow base e size v n xs):QRow w base e size v n xs:=by
 obtain⟨h1,h2⟩:=h;refine⟨h1,?_⟩;rcases h2 with ⟨rfl,h0⟩|⟨g,cap,cur,rfl,hb,hh,hnc,hcm,hcs,ht⟩
 · exact .inl ⟨h0,none,rfl,fun a ha=>by cases ha⟩
 · exact .inr ⟨g,0,cap,cur,by rw[Nat.zero_mul],hb,hh,hnc,by rw[Nat.zero_add];exact hcm,by rw[Nat.zero_add];exact hcs,by rw[Nat.zero_mul,List.drop_zero];exact ht⟩
end
namespace Kd
def Q {α:Type} (d:Kd α) (e:Nat) (w:World) (base:Nat) (ok:Nat→Prop) (v:Value) (xs:List α):Prop :=
 (∀k,v.ownBlock=some k→ok k)∧∃inner,QRow w base e d.sz v xs.length inner∧Reps (d.M w base (fun k=>ok k∧some k≠v.ownBlock)) d.sz xs inner
section
variable {α:Type} {d:Kd α} {e:Nat} {w w1 W:World} {base:Nat} {ok ok':Nat→Prop} {v:Value} {xs:List α}
theorem Q_of_R (h:d.R e w base ok v xs):d.Q e w base ok v xs:=by
 obtain⟨h0,inner,ho,hr⟩:=h;exact⟨h0,inner,q_of_own ho,hr⟩
theorem Q_nil (d:Kd α) (e:Nat) (w:World) (base:Nat) (ok:Nat→Prop):d.Q e w base ok (.slice none 0 0) []:=Q_of_R (R_nil d e w base ok)
end
end Kd
namespace Kd
end Kd
namespace Kd
end Kd
namespace Kd
end Kd
namespace Kd
theorem zde {α:Type} {R:α→List Value→Prop} {size:Nat} {ps qs:List α} {cs ds:List Value} (h:Reps R size ps cs) (h':Reps R size qs ds):Reps R size (ps++qs) (cs++ds):=by
 refine⟨by rw[List.length_append,List.length_append,h.1,h'.1,Nat.add_mul],fun j p hj=>?_⟩;rcases Nat.lt_or_ge j ps.length with hlt|hge
 · rw[List.getElem?_append_left hlt]at hj;have hle:j * size+size≤cs.length:=by rw[h.1,←Nat.succ_mul];exact Nat.mul_le_mul_right _ hlt
   rw[List.drop_append_of_le_length (by omega),List.take_append_of_le_length (by rw[List.length_drop];omega)];exact h.2 j p hj
 · rw[List.getElem?_append_right hge]at hj;have h2:=h'.2 (j - ps.length) p hj;have hle:ps.length * size≤j * size:=Nat.mul_le_mul_right _ hge;rw[List.drop_append,List.drop_eq_nil_of_le (by rw[h.1];exact hle),List.nil_append,h.1,←Nat.sub_mul];exact h2
section
variable {P:Program} {ops:Array Oper} {rest:List Oper} {o:Oper} {a:Act} {Q:Exit→Act→World→Prop} {α:Type}
theorem R_append_rows (d:Kd α) {Rr:α→List Value→Prop} {w0 W:World} (base:Nat) (hgd:o.guard=none) (s x:Operand) (t e:TypeId) (z:Value) (bytes:Nat)
 (ho:o.op=.call { callee:=.builtin .append,args:=#[s,x],argTypes:=#[t,t]})
 (ht:P.underlying t=some (.slice e)) (hinfo:(P.info? e).map (fun i=>(i.zero,i.size,i.bytes))=some (some z,d.sz,bytes)) (hz:z.cells.size=d.sz) (hs0:0<d.sz) (hb0:0<bytes)
 (v:Value) (xs ys:List α) (A:Option Addr) (m c:Nat) (ok okp:Nat→Prop) (hs:a.eval s=v) (hx:a.eval x=.slice A m c)
 (HO:d.R e W base ok v xs) (HR:z3m Rr d.sz W A m ys) (hKM:∀x cs,Rr x cs→d.M W base okp x cs) (hokp:∀k,okp k→ok k∧some k≠v.ownBlock) (hfresh:∀k,W.heap.size≤k→ok k)
 (HB:Below base w0 W) (hbase:base≤W.heap.size) (hl:(xs.length+m) * bytes≤140737488355328)
 (h:∀v1 w1,d.R e w1 base ok v1 (xs++ys)→Below base w0 w1→W.grownBy w1 v.ownBlock→(v1.ownBlock=v.ownBlock∨∃b,v1.ownBlock=some b∧W.heap.size≤b)→wpList P ops Q rest (a.put o.dst v1) w1) :
 wpList P ops Q (o::rest) a W:=by
 obtain⟨i0,hi,hzz⟩:=Option.map_eq_some_iff.1 hinfo;simp only[Prod.mk.injEq]at hzz;obtain⟨hz0,hz1,hz2⟩:=hzz;have hm:ys.length=m:=HR.1;have hlen:xs.length+m≤140737488355328:=Nat.le_trans (Nat.le_mul_of_pos_right _ hb0) hl;obtain⟨hok,inner,hown,hr⟩:=HO;have hrun:∃v1 w1,(Builtin.append_ #[t,t] o.type #[v,.slice A m c]).run P W=.ok v1 w1∧d.R e w1 base ok v1 (xs++ys)∧W.grownBy w1 v.ownBlock∧(v1.ownBlock=v.ownBlock∨∃b,v1.ownBlock=some b∧W.heap.size≤b):=by
  rcases A with _|ad
  · have h0:m=0:=by
     rcases Nat.eq_zero_or_pos m with h0|h0
     · exact h0
     · obtain⟨ad,h,_⟩:=HR.2.2 h0
       cases h
    subst h0;obtain rfl:ys=[]:=List.eq_nil_of_length_eq_zero hm;refine⟨v,W,?_,by rw[List.append_nil];exact⟨hok,inner,hown,hr⟩,World.grownBy.refl W _,.inl rfl⟩;rcases hown.2 with ⟨rfl,hn⟩|⟨g,cap,cur,rfl,_,_,hnc,_⟩
    · simp[Builtin.append_,run_underlying ht,sizeOf,typeInfo,hi,Builtin.lenOf,Builtin.firstCells]
    · simp[Builtin.append_,run_underlying ht,sizeOf,typeInfo,hi,Builtin.lenOf,Builtin.firstCells,hnc,storeCells]
  · obtain⟨news,hnr,hnc⟩:=z3m.inner_ HR;have hnM:Reps (d.M W base okp) d.sz ys news:=hnr.imp_ (fun p c hp=>hKM p c hp);have hone:∀u ∈ news,u.oneCell'=true:=by
     intro u hu;obtain⟨q,hq,rfl⟩:=List.mem_iff_getElem.1 hu;have hql:q / d.sz<ys.length:=by
      rw[Nat.div_lt_iff_lt_mul hs0];rw[←hnM.1];exact hq
     have hc:=hnM.2 (q / d.sz) _ (List.getElem?_eq_getElem hql);refine d.K_one (d.K_of_M hc) _ ?_;rw[List.mem_iff_getElem?];refine⟨q % d.sz,?_⟩;rw[List.getElem?_take,if_pos (Nat.mod_lt _ hs0),List.getElem?_drop,Nat.mul_comm,Nat.div_add_mod,List.getElem?_eq_getElem hq]
    obtain⟨v1,w1,hrun,h2,hg,_,hat⟩:=run_append_own_at (P:=P) W base t o.type e i0 z d.sz bytes ht hi hz0 hz1 hz2 hz hs0 v xs.length inner hown ad m c news (by rw[hnM.1,hm]) hnc hone (by simp only[maxLen];omega) hl hbase;have hat':v1.ownBlock=v.ownBlock∨∃b,v1.ownBlock=some b∧W.heap.size≤b:=by
     rcases hat with hat|hat
     · exact .inl hat
     · exact .inr ⟨_,hat,Nat.le_refl _⟩
    have hne:∀k,some k≠v.ownBlock→k<W.heap.size→some k≠v1.ownBlock:=by
     intro k hk hlt;rcases hat' with hat|⟨b,hb,hle⟩
     · rw[hat];exact hk
     · rw[hb];intro he;injection he with he
       omega
    have step:∀{q:α} {c:List Value} {o:Nat→Prop},d.M W base o q c→(∀k,o k→ok k∧some k≠v.ownBlock)→d.M w1 base (fun k=>ok k∧some k≠v1.ownBlock) q c:=by
     intro q c o hq ho;have h1:=d.M_move (w1:=w1) (fun k hk=>hg.block k hk.2.2.1 (ho k hk.1).2) (d.M_bound hq);exact d.M_mono (fun k hk=>⟨(ho k hk.1).1,hne k (ho k hk.1).2 hk.2.2.1⟩) h1
    refine⟨v1,w1,hrun,⟨fun k hk=>?_,inner++news,by rw[List.length_append,hm];exact h2,zde (hr.imp_ (fun _ _ hq=>step hq (fun _ hk=>hk))) (hnM.imp_ (fun _ _ hq=>step hq hokp))⟩,hg,hat'⟩;rcases hat' with hat|⟨b,hb,hle⟩
    · exact hok k (hat ▸ hk)
    · rw[hb]at hk;injection hk with hk
      exact hfresh k (by omega)
 obtain⟨v1,w1,hr1,h1,hg,hat⟩:=hrun;refine wpList_plain hgd fun K hK=>?_
 unfold Oper.wp execOp;simp only[ho,resolve,invoke,builtin,Sem.run_bind,Sem.run_pure,Result.andThen_ok,List.map_toArray,List.map_cons,List.map_nil,hs,hx,hr1];exact hK _ _ (h v1 w1 h1 (HB.grown hg hbase (z7w hown)) hg hat)
end
end Kd
namespace Kd
end Kd
namespace Kd
end Kd
theorem z0j {w W:World} (h:Below w.heap.size w W):w.heap.size≤W.heap.size:=h.size
theorem z0g {w W w2:World} (h:Below w.heap.size w W) (k:Below W.heap.size W w2):Below w.heap.size w w2:=z14 h h.size k
theorem z08 {w W:World} {g j:Nat} {v:Value} (h:Below w.heap.size w W) (hg:w.heap.size≤g):Below w.heap.size w (W.setCell ⟨g,j,none⟩ v):=h.setCell hg _
theorem z7j {w W:World} {g:Nat} {row:Option Nat} (h:z0v w W g row) (m:Nat):z0v w (W.drewN m) g row:=h
theorem z1s {w W:World} {g:Nat} (h:z0v w W g none) (o:Obj):z0v w (W.alloc o) g none:=h.trans (z0v.of_grown (World.grownBy_alloc W o none) g) (.inl rfl)
theorem zfx {w W:World} {g:Nat} (h:z0v w W g none) {a:Addr} {v:Value} (hc:w.cell? a=some v) (hne:a.block≠g):W.cell? a=some v:=by
 have:=h.2 a.block (World.block_lt_of_cell? w a hc) hne (by simp)
 simpa [World.cell?,this] using hc
theorem zgk (a:Addr) (i:Nat):(a.add i).block=a.block:=by unfold Addr.add;split <;> rfl
theorem z4m {w0 w w1:World} {B:Nat} (h:Below w0.heap.size w0 w) (hB:w0.heap.size≤B) (k:Below B w w1):Below w0.heap.size w0 w1 :=
 h.trans ⟨k.os,k.tape,k.output,k.size,fun i hi=>k.block i (Nat.lt_of_lt_of_le hi hB)⟩
theorem zax {W:World} {p a:Addr} (h:a.block≠p.block) (u:Value):(W.setCell p u).cell? a=W.cell? a:=by
 have:=Below.heap_setCell W p u a.block h
 simp[World.cell?,this]
theorem z0l {w:World} {g:Nat} {t:TypeId} {cs cs':Array Value} (h:w.heap[g]?=some (.cells cs t (0,0))) (i:Nat) (u:Value) (e:cs.setIfInBounds i u=cs'):(w.setCell ⟨g,i,none⟩ u).heap[g]?=some (.cells cs' t (0,0)):=e ▸ z87 h i u
theorem z3n {w W:World} {g:Nat} {row:Option Nat} (h:z0v w W g row) {p:Addr} (hp:w.heap.size≤p.block) (u:Value):z0v w (W.setCell p u) g row :=
 ⟨by simpa [World.setCell] using h.1,fun i hi hg hr=>(Below.heap_setCell W p u i (by omega)).trans (h.2 i hi hg hr)⟩
theorem z05 {base:Nat} {w W:World} (h:Below base w W):Below base w W.drew:=h.drew
theorem zca {w W:World} {g:Nat} {row:Option Nat} (h:z0v w W g row):z0v w W.drew g row:=h
namespace Kd
end Kd
namespace Kd
section
variable {α:Type} {d:Kd α} {e base g:Nat} {ok:Nat→Prop} {w w1:World} {v:Value} {xs:List α} {o:Obj}
theorem R_elderB (h:d.R e w base ok v xs) (a:Nat) (ha:w.heap.size≤a):d.R e w base (fun k=>ok k∧k≠a) v xs:=R_mono (R_bound h) (fun k hk=>⟨hk.1,by have:=hk.2.2.1;omega⟩)
theorem freshB (hb:w.heap[g]?=some o):∀k,w.heap.size≤k→k≠g:=fun k hk=>by have:=z1u hb;omega
end
end Kd
section
variable {P:Program} {ops:Array Oper} {rest:List Oper} {o:Oper} {a:Act} {Q:Exit→Act→World→Prop}
theorem z17 {W:World} (hgd:o.guard=none) {N:Tmp} (_hd:o.dst=some N) {cs:Array Value} {t:TypeId}
 (hrun:(execOp a.eval o).run P W=.ok (.value (.pointer (some ⟨W.heap.size,0,none⟩))) (W.alloc (.cells cs t (0,0))))
 (h:∀g,g=W.heap.size→∀w1,w1.heap[g]?=some (.cells cs t (0,0))→Below W.heap.size W w1→wpList P ops Q rest (a.put o.dst (.pointer (some ⟨g,0,none⟩))) w1):wpList P ops Q (o::rest) a W :=
 Kd.event_run hgd hrun (h _ rfl _ (z1h W _) (z04 (Below.refl _ _) _))
end
namespace Kd
end Kd
namespace Kd
end Kd
section
variable {P:Program} {ops:Array Oper} {rest:List Oper} {o:Oper} {a:Act} {Q:Exit→Act→World→Prop} {W:World}
theorem z19 {N:Tmp} (_hN:o.dst=some N) (h:wpList P ops Q (o::rest) a W):wpList P ops Q (o::rest) a W:=h
theorem z5l {t:TypeId} {p:Tmp} {v:Operand} (_ho:o.op=.store t (.tmp p) v) (h:wpList P ops Q (o::rest) a W):wpList P ops Q (o::rest) a W:=h
end
section
variable {P:Program} {ops:Array Oper} {o:Oper} {a:Act} {Q:Exit→Act→World→Prop} {Kc:Act→World→Prop}
theorem z9w {W w1:World} {v:Value} (hw:Region.wanted o (yielded ops a.tmps)=true) (hrun:(execOp a.eval o).run P W=.ok (.value v) w1) (h:Kc (a.put o.dst v) w1):if Region.wanted o (yielded ops a.tmps)=true then Oper.wp P o a W Kc Q else Kc (a.put o.dst undef) W:=by
 rw[if_pos hw];unfold Oper.wp;rw[hrun];exact h
theorem z59 {W:World} (hw:Region.wanted o (yielded ops a.tmps)=true) {N:Tmp} (_hd:o.dst=some N) {cs:Array Value} {t:TypeId}
 (hrun:(execOp a.eval o).run P W=.ok (.value (.pointer (some ⟨W.heap.size,0,none⟩))) (W.alloc (.cells cs t (0,0))))
 (h:∀g,g=W.heap.size→∀w1,w1.heap[g]?=some (.cells cs t (0,0))→Below W.heap.size W w1→Kc (a.put o.dst (.pointer (some ⟨g,0,none⟩))) w1):if Region.wanted o (yielded ops a.tmps)=true then Oper.wp P o a W Kc Q else Kc (a.put o.dst undef) W :=
 z9w hw hrun (h _ rfl _ (z1h W _) (z04 (Below.refl _ _) _))
namespace Kd
variable {α:Type}
theorem R_lit_step (d:Kd α) {w0 W:World} (base e:Nat) (hw:Region.wanted o (yielded ops a.tmps)=true) {N:Tmp} (_hd:o.dst=some N) {xs:List α} {inner:List Value} {ok okp:Nat→Prop}
 (hrun:(execOp a.eval o).run P W=.ok (.value (.slice (some ⟨W.heap.size,0,none⟩) xs.length xs.length)) (W.alloc (.cells inner.toArray e)))
 (hrep:Reps (d.M W base okp) d.sz xs inner) (hok:∀k,okp k→ok k) (hfresh:ok W.heap.size) (HB:Below base w0 W) (hbase:base≤W.heap.size) (hm:xs.length≤9223372036854775807)
 (h:∀v1 w1,d.R e w1 base ok v1 xs→Below base w0 w1→W.grownBy w1 none→(∃b,v1.ownBlock=some b∧W.heap.size≤b)→Kc (a.put o.dst v1) w1):if Region.wanted o (yielded ops a.tmps)=true then Oper.wp P o a W Kc Q else Kc (a.put o.dst undef) W:=by
 refine z9w hw hrun (h _ _ ⟨fun k hk=>?_,inner,?_,?_⟩ (HB.alloc hbase _) (World.grownBy_alloc W _ none) ⟨W.heap.size,by simp[Value.ownBlock],Nat.le_refl _⟩)
 · have:W.heap.size=k:=by simpa [Value.ownBlock] using hk
   subst this;exact hfresh
 · have h2:=World.ownsRow_lit (base:=base) (e:=e) (size:=d.sz) W inner.toArray xs.length hbase (by simpa [maxLen] using hm) (by simpa using hrep.1)
   simpa using h2
 · refine hrep.imp_ (fun p c hp=>d.M_mono (fun k hk=>⟨hok k hk.1,fun he=>?_⟩) (zfe (d.M_bound hp) (z04 (Below.refl _ _) _)));have h3:k=W.heap.size:=by simpa [Value.ownBlock] using he
   have:=hk.2.2.1;omega
end Kd
end
inductive Vals (P:Program) (tmps:Array Value) (w:World):List ResultVar→List Value→Prop where
 |nil:Vals P tmps w [] []
 |tmp {u:Tmp} {rs:List ResultVar} {vs:List Value} (h:Vals P tmps w rs vs):Vals P tmps w (.tmp u::rs) (tmps.getD u undef::vs)
 |cell {p:Tmp} {ty:TypeId} {rs:List ResultVar} {vs:List Value} (g:Nat) (t:TypeId) (cs:Array Value) (fr:Nat × Nat) (d:TypeDesc)
  (hp:tmps.getD p undef=.pointer (some ⟨g,0,none⟩)) (hg:w.heap[g]?=some (.cells cs t fr))
  (hu:P.underlying ty=some d) (hd:(match d with|.struct _|.array _ _=>true|_=>false)=true) (hi:(P.info? ty).map (·.size)=some cs.size)
  (h:Vals P tmps w rs vs):Vals P tmps w (.cell p ty::rs) (.agg cs::vs)
section
variable {P:Program} {tmps:Array Value} {w:World}
theorem vals_run {rs:List ResultVar} {vs:List Value} (hv:Vals P tmps w rs vs) (f:ResultVar→Sem Value) (hf:∀u,f (.tmp u)=pure (tmps.getD u undef)) (hc:∀a t,f (.cell a t)=(do loadVar t (←asAddr (tmps.getD a undef)))) :
 (rs.mapM f).run P w=.ok vs w:=by
 induction hv with
 |nil=>simp
 |tmp h ih=>simp[List.mapM_cons,hf,ih]
 |cell g t cs fr d hp hg hu hd hi h ih =>
  rw[List.mapM_cons,hc,hp]
  simp[asAddr,run_loadVar_row w g t _ cs fr d hg hu hd hi,ih]
theorem z6j {fn:Func} {r:ResultVar} {v:Value} (h:fn.results=#[r]) (hv:Vals P tmps w [r] [v]):(results fn tmps).run P w=.ok v w:=by
 unfold results;rw[show fn.results=[r].toArray from h,List.mapM_toArray];simp only[Sem.run_bind,Sem.run_map];rw[vals_run hv]
 · simp
 · intro u;rfl
 · intro a t;rfl
end
namespace Kd
end Kd
end Go.Proofs.YthebhbomlllpeaaGreatDoorW.PrintWords
namespace Go.Proofs.YthebhbomlllpeaaGreatDoorW.PrintLast
section
variable {P:Program} {ops:Array Oper} {Q:Exit→Act→World→Prop} {md:Region.Mode} {S:World→Prop} {ds:List Nat}
def Region.reachB (md:Region.Mode) (ops:Array Oper) (i:Nat):Nat→Nat→Bool
 |0,_=>false
 |fuel+1,d=>match ops[d]? with
  |some o=>o.after.any fun e=>Region.binds md e&&(e.on==i||Region.reachB md ops i fuel e.on)
  |none=>false
def Region.closedB (md:Region.Mode) (ops:Array Oper) (listed:Array Bool):Bool :=
 (List.range ops.size).all fun j=>!listed.getD j false||match ops[j]? with
   |some o=>o.after.all fun e=>!Region.binds md e||listed.getD e.on false
   |none=>true
def Region.lastB (md:Region.Mode) (ops:Array Oper) (listed:Array Bool) (ds:List Nat) (i:Nat):Bool :=
 ds.all fun d=>listed.getD d true||Region.reachB md ops i ops.size d
def z3u (md:Region.Mode) (ops:Array Oper) (listed:Array Bool):Prop :=
 ∀j oj,ops[j]?=some oj→listed.getD j false=true→∀e ∈ oj.after,Region.binds md e=true→listed.getD e.on false=true
theorem Region.closedB_spec {listed:Array Bool} (h:Region.closedB md ops listed=true):z3u md ops listed:=by
 intro j oj hj hl e he hb;have hlt:j<ops.size:=(Array.getElem?_eq_some_iff.1 hj).1;have h1:=List.all_eq_true.1 h j (List.mem_range.2 hlt);simp only[hl,hj,Bool.not_true,Bool.false_or]at h1;have h2:=Array.all_eq_true_iff_forall_mem.1 h1 e he
 simpa [hb] using h2
theorem z3u.set {listed:Array Bool} {i:Nat} (h:z3u md ops listed) (hi:i ∈ Region.ready md ops listed):z3u md ops (listed.setIfInBounds i true):=by
 obtain⟨_,oi,hoi,hall⟩:=mem_ready.1 hi;intro j oj hj hl e he hb
 by_cases hij:i=j
 · subst hij;have:oj=oi:=Option.some.inj (hj.symm.trans hoi);subst this;exact getD_set_true (hall e he hb)
 · rw[getD_set_ne false hij]at hl;exact getD_set_true (h j oj hj hl e he hb)
theorem Region.reach_listed {listed:Array Bool} {i:Nat} (hc:z3u md ops listed):∀(fuel d:Nat),Region.reachB md ops i fuel d=true→listed.getD d false=true→listed.getD i false=true
 |0,_,h,_=>by simp[Region.reachB]at h
 |fuel+1,d,h,hl=>by
  unfold Region.reachB at h
  cases ho:ops[d]? with
  |none=>rw[ho]at h;simp at h
  |some o =>
   rw[ho]at h;obtain⟨e,he,h1⟩:=Array.any_eq_true'.1 h;simp only[Bool.and_eq_true,Bool.or_eq_true,beq_iff_eq]at h1;have hle:=hc d o ho hl e he h1.1;rcases h1.2 with h2|h2
   · rw[←h2];exact hle
   · exact Region.reach_listed hc fuel e.on h2 hle
theorem Region.reach_not_ready {listed:Array Bool} {i d fuel:Nat} (hc:z3u md ops listed) (hr:Region.reachB md ops i fuel d=true) (hun:listed.getD i true=false):d ∉ Region.ready md ops listed:=by
 intro hd;obtain⟨_,o,ho,hall⟩:=mem_ready.1 hd;have hi:listed.getD i false=true:=by
  cases fuel with
  |zero=>simp[Region.reachB]at hr
  |succ n =>
   unfold Region.reachB at hr;rw[ho]at hr;obtain⟨e,he,h1⟩:=Array.any_eq_true'.1 hr;simp only[Bool.and_eq_true,Bool.or_eq_true,beq_iff_eq]at h1;have hle:=hall e he h1.1;rcases h1.2 with h2|h2
   · rw[←h2];exact hle
   · exact Region.reach_listed hc n e.on h2 hle
 rcases Nat.lt_or_ge i listed.size with h'|h'
 · simp[h']at hun hi
   rw[hun]at hi
   cases hi
 · simp[Array.getElem?_eq_none h']at hun
def z1c (P:Program) (md:Region.Mode) (ops:Array Oper) (Q:Exit→Act→World→Prop) (S:World→Prop) (ds:List Nat):Nat→Array Bool→Act→World→Prop
 |0,listed,a,w=>Region.ready md ops listed=[]∧Q .normal a w
 |fuel+1,listed,a,w =>
  (Region.ready md ops listed=[]→Q .normal a w) ∧
  ∀i ∈ Region.ready md ops listed,wpOp P ops Q i (fun a' w'=>(i ∉ ds→S w→S w')∧z1c P md ops Q S ds fuel (listed.setIfInBounds i true) a' w') a w
theorem z6r:∀(fuel:Nat) (listed:Array Bool) (a:Act) (w:World),z1c P md ops Q S ds fuel listed a w→wpAny P md ops Q fuel listed a w
 |0,_,_,_,h=>h
 |fuel+1,_,_,_,h=>⟨h.1,fun i hi=>wpOp_mono (fun a' w' h'=>z6r fuel _ a' w' h'.2) (h.2 i hi)⟩
theorem z89 {i:Nat} {oi:Oper} {v:Value} (hi:ops[i]?=some oi) (hsel:∀(j:Nat) (o:Oper) cs b,ops[j]?=some o→o.op≠.select cs b)
 (hQ:∀c a w,Q (.panic c) (a.put oi.dst v) w→Q (.panic c) a w) (n:Nat) :
 ∀(fuel:Nat) (listed:Array Bool) (a:Act) (w:World),
  (∀j oj,ops[j]?=some oj→j≠i→listed.getD j true=false→(∀e ∈ oj.after,Region.binds md e=true→e.on≠i)→oi.apart ops oj=true) →
  z3u md ops listed→(∀d ∈ ds,listed.getD d true=false→Region.reachB md ops i n d=true) →
  i ∈ Region.ready md ops listed→YieldsIf P ops S oi v a→S w →
  z1c P md ops Q S ds fuel (listed.setIfInBounds i true) (a.put oi.dst v) w→z1c P md ops Q S ds (fuel+1) listed a w:=by
 intro fuel
 induction fuel with
 |zero =>
  intro listed a w _ _ _ hr hy hS H;refine⟨fun h=>(by rw[h]at hr;cases hr),fun j hj=>?_⟩
  by_cases hji:j=i
  · subst hji;exact hy.wpOp hi hS ⟨fun _ h=>h,H⟩
  · have:=ready_mono hj hji;rw[H.1]at this
    cases this
 |succ fuel ih =>
  intro listed a w hfree hc hd hr hy hS H;refine⟨fun h=>(by rw[h]at hr;cases hr),fun j hj=>?_⟩
  by_cases hji:j=i
  · subst hji;exact hy.wpOp hi hS ⟨fun _ h=>h,H⟩
  · have h1:=H.2 j (ready_mono hj hji);obtain⟨hjun,oj,hoj,hall⟩:=mem_ready.1 hj;have hiun:=(mem_ready.1 hr).1;have hnot:∀e ∈ oj.after,Region.binds md e=true→e.on≠i:=fun e he hb heq=>by
     have h1:=hall e he hb;rw[heq]at h1;rcases Nat.lt_or_ge i listed.size with h'|h'
     · simp[h']at hiun h1;rw[hiun]at h1;cases h1
     · simp[Array.getElem?_eq_none h']at h1
    have hjd:j ∉ ds:=fun hm=>Region.reach_not_ready hc (hd j hm hjun) hiun hj
    have h2:=wpOp_putIf hoj (hfree j oj hoj hji hjun hnot) (fun cs b=>hsel i oi cs b hi) (fun cs b=>hsel j oj cs b hoj) hQ hy h1;have hfree':∀k ok,ops[k]?=some ok→k≠i→(listed.setIfInBounds j true).getD k true=false →
     (∀e ∈ ok.after,Region.binds md e=true→e.on≠i)→oi.apart ops ok=true:=fun k ok hk hki hun hno=>by
     refine hfree k ok hk hki ?_ hno
     by_cases hjk:j=k
     · subst hjk;exact hjun
     · rw[getD_set_ne true hjk]at hun;exact hun
    have hd':∀d ∈ ds,(listed.setIfInBounds j true).getD d true=false→Region.reachB md ops i n d=true:=fun d hm hun=>by
     refine hd d hm ?_
     by_cases hjk:j=d
     · subst hjk;exact hjun
     · rw[getD_set_ne true hjk]at hun;exact hun
    refine wpOp_mono (fun a' w' h3=>⟨h3.2.1,ih (listed.setIfInBounds j true) a' w' hfree' (hc.set hj) hd' (ready_mono hr (Ne.symm hji)) h3.1 (h3.2.1 hjd hS) ?_⟩) h2;rw[Array.setIfInBounds_comm _ _ hji];exact h3.2.2
theorem zaz {i:Nat} {oi:Oper} {v:Value} (hi:ops[i]?=some oi) (hsel:∀(j:Nat) (o:Oper) cs b,ops[j]?=some o→o.op≠.select cs b)
 (hQ:∀c a w,Q (.panic c) (a.put oi.dst v) w→Q (.panic c) a w) :
 ∀(fuel:Nat) (listed:Array Bool) (a:Act) (w:World),
  (∀j oj,ops[j]?=some oj→j≠i→listed.getD j true=false→(∀e ∈ oj.after,Region.binds md e=true→e.on≠i)→oi.apart ops oj=true) →
  i ∈ Region.ready md ops listed→Yields P ops oi v a →
  z1c P md ops Q S ds fuel (listed.setIfInBounds i true) (a.put oi.dst v) w→z1c P md ops Q S ds (fuel+1) listed a w:=by
 intro fuel
 induction fuel with
 |zero =>
  intro listed a w _ hr hy H;refine⟨fun h=>(by rw[h]at hr;cases hr),fun j hj=>?_⟩
  by_cases hji:j=i
  · subst hji;exact(hy.yieldsIf (S:=fun _=>True)).wpOp hi trivial ⟨fun _ h=>h,H⟩
  · have:=ready_mono hj hji;rw[H.1]at this
    cases this
 |succ fuel ih =>
  intro listed a w hfree hr hy H;refine⟨fun h=>(by rw[h]at hr;cases hr),fun j hj=>?_⟩
  by_cases hji:j=i
  · subst hji;exact(hy.yieldsIf (S:=fun _=>True)).wpOp hi trivial ⟨fun _ h=>h,H⟩
  · have h1:=H.2 j (ready_mono hj hji);obtain⟨hjun,oj,hoj,hall⟩:=mem_ready.1 hj;have hiun:=(mem_ready.1 hr).1;have hnot:∀e ∈ oj.after,Region.binds md e=true→e.on≠i:=fun e he hb heq=>by
     have h1:=hall e he hb;rw[heq]at h1;rcases Nat.lt_or_ge i listed.size with h'|h'
     · simp[h']at hiun h1;rw[hiun]at h1;cases h1
     · simp[Array.getElem?_eq_none h']at h1
    have h2:=wpOp_put hoj (hfree j oj hoj hji hjun hnot) (fun cs b=>hsel i oi cs b hi) (fun cs b=>hsel j oj cs b hoj) hQ hy h1;have hfree':∀k ok,ops[k]?=some ok→k≠i→(listed.setIfInBounds j true).getD k true=false →
     (∀e ∈ ok.after,Region.binds md e=true→e.on≠i)→oi.apart ops ok=true:=fun k ok hk hki hun hno=>by
     refine hfree k ok hk hki ?_ hno
     by_cases hjk:j=k
     · subst hjk;exact hjun
     · rw[getD_set_ne true hjk]at hun;exact hun
    refine wpOp_mono (fun a' w' h3=>⟨h3.2.1,ih (listed.setIfInBounds j true) a' w' hfree' (ready_mono hr (Ne.symm hji)) h3.1 ?_⟩) h2;rw[Array.setIfInBounds_comm _ _ hji];exact h3.2.2
theorem z9d {i:Nat} {oi:Oper} {v:Value} {fuel:Nat} {listed:Array Bool} {a:Act} {w:World} (hi:ops[i]?=some oi)
 (hs:Region.noSelect ops=true) (hf:Region.free md ops listed i=true) (hr:(Region.ready md ops listed).contains i=true)
 (hc:Region.closedB md ops listed=true) (hl:Region.lastB md ops listed ds i=true)
 (hQ:∀c a w,Q (.panic c) (a.put oi.dst v) w→Q (.panic c) a w) (hy:YieldsIf P ops S oi v a) (hS:S w)
 (h:z1c P md ops Q S ds fuel (listed.setIfInBounds i true) (a.put oi.dst v) w):z1c P md ops Q S ds (fuel+1) listed a w :=
 z89 hi (Region.noSelect_spec hs) hQ ops.size fuel listed a w (Region.free_spec hi hf) (Region.closedB_spec hc)
  (fun d hm hun=>by have:=List.all_eq_true.1 hl d hm;rw[hun]at this;simpa using this) (by simpa using hr) hy hS h
theorem zam {rs:List Nat} {fuel:Nat} {listed:Array Bool} {a:Act} {w:World} (hr:Region.ready md ops listed=rs) (hne:rs≠[])
 (h:∀i ∈ rs,wpOp P ops Q i (fun a' w'=>(i ∉ ds→S w→S w')∧z1c P md ops Q S ds fuel (listed.setIfInBounds i true) a' w') a w):z1c P md ops Q S ds (fuel+1) listed a w :=
 ⟨fun h0=>absurd (hr ▸ h0) hne,hr ▸ h⟩
theorem z99 {listed:Array Bool} {a:Act} {w:World} (hr:Region.ready md ops listed=[]) (h:Q .normal a w) :
 ∀fuel,z1c P md ops Q S ds fuel listed a w
 |0=>⟨hr,h⟩
 |_+1=>⟨fun _=>h,by rw[hr];simp⟩
theorem z9h {id:Nat} {a:Act} {w:World} (hm:P.follows .mixedOrders=true)
 (h:z1c P .any ops Q S ds ops.size (Array.replicate ops.size false) a { w with drawn:=w.drawn+1 }):(Code.region id ops true).wp P Q a w :=
 wp_region_any hm (z6r _ _ _ _ h)
end
section
variable {P:Program} {ops:Array Oper} {Q:Exit→Act→World→Prop} {md:Region.Mode} {S:World→Prop} {ds:List Nat}
def z2u (P:Program) (md:Region.Mode) (ops:Array Oper) (Q:Exit→Act→World→Prop) (S:World→Prop) (ds:List Nat) (fuel:Nat) (listed:Array Bool) (a:Act) (w:World) (rs:List Nat):Prop :=
 ∀i ∈ rs,wpOp P ops Q i (fun a' w'=>(i ∉ ds→S w→S w')∧z1c P md ops Q S ds fuel (listed.setIfInBounds i true) a' w') a w
theorem z2u.nil {fuel:Nat} {listed:Array Bool} {a:Act} {w:World}:z2u P md ops Q S ds fuel listed a w []:=fun _ h=>by cases h
theorem z2u.cons {fuel:Nat} {listed:Array Bool} {a:Act} {w:World} {i:Nat} {o:Oper} {rs:List Nat} (ho:ops[i]?=some o) (hd:i ∉ ds)
 (h:∀K':Act→World→Prop,Shut (∀a w,S w→(S w→z1c P md ops Q S ds fuel (listed.setIfInBounds i true) a w)→K' a w)→if Region.wanted o (yielded ops a.tmps)=true then Oper.wp P o a w K' Q else K' (a.put o.dst undef) w)
 (hs:z2u P md ops Q S ds fuel listed a w rs):z2u P md ops Q S ds fuel listed a w (i::rs):=fun j hj=>by
 rcases List.mem_cons.1 hj with rfl|hj
 · exact wpOp_step ho (fun K' hK=>h K' (fun a w hS hW=>hK a w ⟨fun _ _=>hS,hW hS⟩))
 · exact hs j hj
theorem z2u.cons_last {fuel:Nat} {listed:Array Bool} {a:Act} {w:World} {i:Nat} {o:Oper} {rs:List Nat} (ho:ops[i]?=some o) (hd:i ∈ ds)
 (h:∀K':Act→World→Prop,Shut (∀a w,z1c P md ops Q S ds fuel (listed.setIfInBounds i true) a w→K' a w)→if Region.wanted o (yielded ops a.tmps)=true then Oper.wp P o a w K' Q else K' (a.put o.dst undef) w)
 (hs:z2u P md ops Q S ds fuel listed a w rs):z2u P md ops Q S ds fuel listed a w (i::rs):=fun j hj=>by
 rcases List.mem_cons.1 hj with rfl|hj
 · exact wpOp_step ho (fun K' hK=>h K' (fun a w hW=>hK a w ⟨fun hn=>absurd hd hn,hW⟩))
 · exact hs j hj
theorem z56 {rs:List Nat} {fuel:Nat} {listed:Array Bool} {a:Act} {w:World} (hr:Region.ready md ops listed=rs) (hne:rs≠[])
 (h:z2u P md ops Q S ds fuel listed a w rs):z1c P md ops Q S ds (fuel+1) listed a w:=zam hr hne h
theorem z78 {id n:Nat} {a:Act} {w:World} (l:Array Bool) (hm:P.follows .mixedOrders=true) (hn:ops.size=n) (hl:Array.replicate n false=l) (hS:S w.drew)
 (h:S w.drew→z1c P .any ops Q S ds n l a w.drew):(Code.region id ops true).wp P Q a w:=by
 subst hn;subst hl;exact z9h hm (h hS)
def takeB (md:Region.Mode) (ops:Array Oper) (ds:List Nat) (l l':Array Bool) (i:Nat):Bool :=
 Region.noSelect ops&&Region.free md ops l i&&(Region.ready md ops l).contains i&&Region.closedB md ops l&&Region.lastB md ops l ds i&&(l.setIfInBounds i true==l')
theorem take_ {i:Nat} {N:Option Tmp} {oi:Oper} {v:Value} {fuel:Nat} {l:Array Bool} {a:Act} {w:World} (l':Array Bool) (hi:ops[i]?=some oi) (hN:oi.dst=N) (hc:takeB md ops ds l l' i=true)
 (hQ:∀c a w,Q (.panic c) (a.put oi.dst v) w→Q (.panic c) a w) (hy:YieldsIf P ops S oi v a) (hS:S w) {a':Act} (ha:a.put N v=a')
 (h:z1c P md ops Q S ds fuel l' a' w):z1c P md ops Q S ds (fuel+1) l a w:=by
 subst ha;subst hN;simp only[takeB,Bool.and_eq_true,beq_iff_eq]at hc;obtain⟨⟨⟨⟨⟨h1,h2⟩,h3⟩,h4⟩,h5⟩,h6⟩:=hc;subst h6;exact z9d hi h1 h2 h3 h4 h5 hQ hy hS h
def anyB (md:Region.Mode) (ops:Array Oper) (l l':Array Bool) (i:Nat):Bool :=
 Region.noSelect ops&&Region.free md ops l i&&(Region.ready md ops l).contains i&&(l.setIfInBounds i true==l')
theorem pure_ {i:Nat} {N:Option Tmp} {oi:Oper} {v:Value} {fuel:Nat} {l:Array Bool} {a:Act} {w:World} (l':Array Bool) (hi:ops[i]?=some oi) (hN:oi.dst=N) (hc:anyB md ops l l' i=true)
 (hQ:∀c a w,Q (.panic c) (a.put oi.dst v) w→Q (.panic c) a w) (hy:Yields P ops oi v a) {a':Act} (ha:a.put N v=a')
 (h:z1c P md ops Q S ds fuel l' a' w):z1c P md ops Q S ds (fuel+1) l a w:=by
 subst ha;subst hN;simp only[anyB,Bool.and_eq_true,beq_iff_eq]at hc;obtain⟨⟨⟨h1,h2⟩,h3⟩,h6⟩:=hc;subst h6;exact zaz hi (Region.noSelect_spec h1) hQ fuel l a w (Region.free_spec hi h2) (by simpa using h3) hy h
def z9k (md:Region.Mode) (ops:Array Oper) (l l':Array Bool) (i:Nat):Bool:=(Region.ready md ops l==[i])&&(l.setIfInBounds i true==l')
theorem one_ {i:Nat} {N:Option Tmp} {oi:Oper} {fuel:Nat} {l:Array Bool} {a:Act} {w:World} (l':Array Bool) (hi:ops[i]?=some oi) (hN:oi.dst=N) (hc:z9k md ops l l' i=true) (hd:i ∉ ds)
 (h:∀K:Act→World→Prop,Shut (∀a' w',S w'→(S w'→z1c P md ops Q S ds fuel l' a' w')→K a' w')→if Region.wanted oi (yielded ops a.tmps)=true then Oper.wp P oi a w K Q else K (a.put N undef) w) :
 z1c P md ops Q S ds (fuel+1) l a w:=by
 subst hN;simp only[z9k,Bool.and_eq_true,beq_iff_eq]at hc;obtain⟨h1,h2⟩:=hc;subst h2;exact z56 h1 (by simp) (z2u.cons hi hd (fun K hK=>h K hK) z2u.nil)
theorem last_ {i:Nat} {N:Option Tmp} {oi:Oper} {fuel:Nat} {l:Array Bool} {a:Act} {w:World} (l':Array Bool) (hi:ops[i]?=some oi) (hN:oi.dst=N) (hc:z9k md ops l l' i=true) (hd:i ∈ ds)
 (h:∀K:Act→World→Prop,Shut (∀a' w',z1c P md ops Q S ds fuel l' a' w'→K a' w')→if Region.wanted oi (yielded ops a.tmps)=true then Oper.wp P oi a w K Q else K (a.put N undef) w) :
 z1c P md ops Q S ds (fuel+1) l a w:=by
 subst hN;simp only[z9k,Bool.and_eq_true,beq_iff_eq]at hc;obtain⟨h1,h2⟩:=hc;subst h2;exact z56 h1 (by simp) (z2u.cons_last hi hd (fun K hK=>h K hK) z2u.nil)
theorem done_ {l:Array Bool} {a:Act} {w:World} {n:Nat} (hr:(Region.ready md ops l==[])=true) (h:Q .normal a w):z1c P md ops Q S ds n l a w:=z99 (by simpa using hr) h n
theorem two_ {i j:Nat} {Ni Nj:Option Tmp} {oi oj:Oper} {fuel:Nat} {l:Array Bool} {a:Act} {w:World} (li lj:Array Bool) (hi:ops[i]?=some oi) (hj:ops[j]?=some oj) (hNi:oi.dst=Ni) (hNj:oj.dst=Nj)
 (hc:(Region.ready md ops l==[i,j]&&l.setIfInBounds i true==li&&l.setIfInBounds j true==lj)=true) (hdi:i ∉ ds) (hdj:j ∉ ds)
 (h1:∀K:Act→World→Prop,Shut (∀a' w',S w'→(S w'→z1c P md ops Q S ds fuel li a' w')→K a' w')→if Region.wanted oi (yielded ops a.tmps)=true then Oper.wp P oi a w K Q else K (a.put Ni undef) w)
 (h2:∀K:Act→World→Prop,Shut (∀a' w',S w'→(S w'→z1c P md ops Q S ds fuel lj a' w')→K a' w')→if Region.wanted oj (yielded ops a.tmps)=true then Oper.wp P oj a w K Q else K (a.put Nj undef) w) :
 z1c P md ops Q S ds (fuel+1) l a w:=by
 subst hNi;subst hNj;simp only[Bool.and_eq_true,beq_iff_eq]at hc;obtain⟨⟨h3,h4⟩,h5⟩:=hc;subst h4;subst h5;exact z56 h3 (by simp) (z2u.cons hi hdi (fun K hK=>h1 K hK) (z2u.cons hj hdj (fun K hK=>h2 K hK) z2u.nil))
def z73:Act→List (Tmp × Value)→Act
 |a,[]=>a
 |a,(n,v)::r=>z73 (a.put (some n) v) r
theorem join_ {σ:Type} {fuel:Nat} {l:Array Bool} {a:Act} {w:World} (fuel':Nat) (l':Array Bool) (ns:σ→List (Tmp × Value)) (F:σ→World→Prop)
 (hcont:∀s w',F s w'→z1c P md ops Q S ds fuel' l' (z73 a (ns s)) w')
 (h:(∀s w',F s w'→z1c P md ops Q S ds fuel' l' (z73 a (ns s)) w')→z1c P md ops Q S ds fuel l a w):z1c P md ops Q S ds fuel l a w:=h hcont
theorem norm_ {fuel:Nat} {l:Array Bool} {a a':Act} {w:World} (ha:a=a') (h:z1c P md ops Q S ds fuel l a' w):z1c P md ops Q S ds fuel l a w:=by
 subst ha;exact h
theorem zgc {f : FuncId} {fn : Func} (hf : P.funcs[f]? = some fn) (hname : (fn.name == "runtime.NumGoroutine") = false) (hb : fn.body.isSome = true) (args : Array Value) (w : World) : (callFunc f args).run P w = .ok (.enter f args) w := by
 have h1 : fn.name ≠ "runtime.NumGoroutine" := by simpa using hname
 obtain⟨c,hc⟩:=Option.isSome_iff_exists.1 hb
 simp[callFunc,hf,h1,hc]
theorem z27 {rest : List Oper} {oi : Oper} {a : Act} {w : World} (N : Option Tmp) (hd : oi.dst = N) (hg : oi.guard = none) {f : FuncId} {fn : Func} {asv : Array Operand} {ts : Array TypeId} (hf : P.funcs[f]? = some fn) (hname : (fn.name == "runtime.NumGoroutine") = false) (hb : fn.body.isSome = true) (args : Array Value)
 (hop:oi.op=.call { callee:=.value (.func f),args:=asv,argTypes:=ts }) (hargs:asv.map a.eval=args)
 (h:Calls P f args w fun e w'=>∃v,e=.returned v∧wpList P ops Q rest (a.put N v) w'):wpList P ops Q (oi::rest) a w:=by
 refine wpList_plain hg fun K hK=>?_
 have he:=zgc hf hname hb args w;have hrun:(execOp a.eval oi).run P w=.ok (.enter f args) w:=by
  unfold execOp
  simp[hop,resolve,Deferred.ofValue,invoke,Act.eval,hargs,he]
 unfold Oper.wp;rw[hrun,Oper.upon_enter];refine h.mono fun e w'' hh=>?_
 obtain⟨v,rfl,hk⟩:=hh;subst hd;exact hK _ _ hk
theorem zba {oi:Oper} {N:Option Tmp} {a:Act} {w w1:World} {v:Value} {K:Act→World→Prop} (hw:Region.wanted oi (yielded ops a.tmps)=true) (hN:oi.dst=N) (hrun:(execOp a.eval oi).run P w=.ok (.value v) w1)
 (h:K (a.put N v) w1):if Region.wanted oi (yielded ops a.tmps)=true then Oper.wp P oi a w K Q else K (a.put N undef) w:=by
 rw[if_pos hw];subst hN;unfold Oper.wp;rw[hrun];exact h
theorem skip_ {oi:Oper} {a:Act} {w w1:World} {K:Act→World→Prop} (hw:Region.wanted oi (yielded ops a.tmps)=true) (hN:oi.dst=none) (hrun:(execOp a.eval oi).run P w=.ok .skip w1)
 (h:K a w1):if Region.wanted oi (yielded ops a.tmps)=true then Oper.wp P oi a w K Q else K (a.put none undef) w:=by
 rw[if_pos hw];unfold Oper.wp;rw[hrun];show K (a.put oi.dst undef) w1;rw[hN];exact h
theorem i64_w (n:Int):IntKind.i64.wrap n=Go.RowKit.wrap64 n:=by unfold Go.RowKit.wrap64;exact IntKind.wrap_i64 n
theorem i32_w (n:Int):IntKind.i32.wrap n=Go.RowKit.wrap32 n:=by unfold Go.RowKit.wrap32;exact IntKind.wrap_i32 n
end
end Go.Proofs.YthebhbomlllpeaaGreatDoorW.PrintLast
namespace Go.Proofs.YthebhbomlllpeaaGreatDoorW.PrintLast
open Go.Proofs.YthebhbomlllpeaaGreatDoorW.PrintWords (z00)
def z7k (md:Region.Mode) (o:Oper):List Nat:=(o.after.toList.filter (fun e=>Region.binds md e)).map (fun e=>e.on)
def zcs (md:Region.Mode) (ops:Array Oper) (i:Nat) (oi:Oper):List Nat:=(List.range ops.size).filter fun j=>!(j==i)&&match ops[j]? with
 |some oj=>!(oj.after.any (fun e=>Region.binds md e&&e.on==i)||oi.apart ops oj)
 |none=>false
def rtab (md : Region.Mode) (ops : Array Oper) : Bool × List (List Nat × List Nat) := (Region.noSelect ops,(List.range ops.size).map fun i=>match ops[i]? with
 |some o=>(z7k md o,zcs md ops i o)
 |none=>([],[]))
def z63 (T:List (List Nat × List Nat)) (l:List Bool) (i:Nat):Bool:=!l.getD i true&&match T[i]? with
 |some r=>r.1.all (fun j=>l.getD j false)
 |none=>false
def z9r (T:List (List Nat × List Nat)) (l:List Bool):List Nat:=(List.range T.length).filter (z63 T l)
def freeT (T:List (List Nat × List Nat)) (l:List Bool) (i:Nat):Bool:=match T[i]? with
 |some r=>r.2.all (fun j=>l.getD j true)
 |none=>false
def zaw (T:List (List Nat × List Nat)) (l:List Bool):Bool:=(List.range T.length).all fun j=>!l.getD j false||match T[j]? with
 |some r=>r.1.all (fun k=>l.getD k false)
 |none=>true
def z9o (T:List (List Nat × List Nat)) (i:Nat):Nat→Nat→Bool
 |0,_=>false
 |fuel+1,d=>match T[d]? with
  |some r=>r.1.any fun j=>j==i||z9o T i fuel j
  |none=>false
def lastT (T:List (List Nat × List Nat)) (l:List Bool) (ds:List Nat) (i:Nat):Bool:=ds.all fun d=>l.getD d true||z9o T i T.length d
section
variable {md:Region.Mode} {ops:Array Oper} {T:Bool × List (List Nat × List Nat)} {l l' li lj lk:Array Bool} {ds:List Nat} {i j k:Nat}
theorem gd (l:Array Bool) (j:Nat) (b:Bool):l.getD j b=l.toList.getD j b:=by simp[Array.getD_eq_getD_getElem?,List.getD_eq_getElem?_getD]
theorem zby (o:Oper) (p:Nat→Bool):o.after.all (fun e=>!Region.binds md e||p e.on)=(z7k md o).all p:=by
 unfold z7k;rw[←Array.all_toList]
 induction o.after.toList with
 |nil=>rfl
 |cons e r ih =>
  rw[List.all_cons,ih,List.filter_cons]
  cases h:Region.binds md e <;> simp
theorem zf9 (o:Oper) (p:Nat→Bool):o.after.any (fun e=>Region.binds md e&&p e.on)=(z7k md o).any p:=by
 unfold z7k;rw[←Array.any_toList]
 induction o.after.toList with
 |nil=>rfl
 |cons e r ih =>
  rw[List.any_cons,ih,List.filter_cons]
  cases h:Region.binds md e <;> simp
theorem z5u:(rtab md ops).2.length=ops.size:=by simp[rtab]
theorem z7a {o:Oper} (h:ops[i]?=some o):(rtab md ops).2[i]?=some (z7k md o,zcs md ops i o):=by
 have hi:=(Array.getElem?_eq_some_iff.1 h).1;unfold rtab;rw[List.getElem?_map,List.getElem?_range hi,Option.map_some,h]
theorem z6w (h:ops[i]?=none):(rtab md ops).2[i]?=none:=by
 have hi:ops.size≤i:=Array.getElem?_eq_none_iff.1 h;exact List.getElem?_eq_none (by rw[z5u];exact hi)
theorem zef:z63 (rtab md ops).2 l.toList i=(!l.getD i true&&((ops[i]?).map (·.after.all fun e=>!Region.binds md e||l.getD e.on false)).getD false):=by
 unfold z63;rw[gd]
 cases h:ops[i]? with
 |none=>rw[z6w h];rfl
 |some o =>
  rw[z7a h];simp only[Option.map_some,Option.getD_some];rw[←zby];simp only[gd]
theorem z7y:Region.ready md ops l=z9r (rtab md ops).2 l.toList:=by
 unfold Region.ready z9r;rw[z5u];refine List.filter_congr (fun i _=>?_);rw[zef]
theorem zfv:Region.free md ops l i=freeT (rtab md ops).2 l.toList i:=by
 unfold Region.free freeT
 cases h:ops[i]? with
 |none=>rw[z6w h]
 |some oi =>
  rw[z7a h];simp only[zcs];rw[List.all_filter]
  congr 1
  funext j
  rw[gd]
  cases hj:ops[j]? with
  |none=>cases (j==i) <;> cases (l.toList.getD j true) <;> simp
  |some oj =>
   cases (j==i) <;> cases (l.toList.getD j true) <;> cases (oj.after.any (fun e=>Region.binds md e&&e.on==i)||oi.apart ops oj) <;> simp_all
theorem zgt:Region.closedB md ops l=zaw (rtab md ops).2 l.toList:=by
 unfold Region.closedB zaw;rw[z5u]
 congr 1
 funext j
 rw[gd]
 cases h:ops[j]? with
 |none=>rw[z6w h]
 |some o =>
  rw[z7a h];simp only;rw[←zby];simp only[gd]
theorem zds:∀(fuel d:Nat),Region.reachB md ops i fuel d=z9o (rtab md ops).2 i fuel d
 |0,_=>rfl
 |fuel+1,d=>by
  unfold Region.reachB z9o
  cases h:ops[d]? with
  |none=>rw[z6w h]
  |some o =>
   rw[z7a h];simp only;rw[←zf9]
   congr 1
   funext e
   rw[zds fuel]
theorem last_eq:Region.lastB md ops l ds i=lastT (rtab md ops).2 l.toList ds i:=by
 unfold Region.lastB lastT;rw[z5u]
 congr 1
 funext d
 rw[gd,zds]
theorem z90 (h:z63 T.2 l.toList i=true) (hT:rtab md ops=T):(Region.ready md ops l).contains i=true:=by
 subst hT;rw[z7y];unfold z9r;rw[List.contains_iff_mem,List.mem_filter,List.mem_range];refine⟨?_,h⟩;unfold z63 at h;rw[Bool.and_eq_true]at h
 cases hq:(rtab md ops).2[i]? with
 |none=>rw[hq]at h;simp at h
 |some r=>exact(List.getElem?_eq_some_iff.1 hq).1
theorem zch (h:(l.toList.set i true==l'.toList)=true):(l.setIfInBounds i true==l')=true:=by
 rw[beq_iff_eq]at h ⊢;apply Array.ext';rw[Array.toList_setIfInBounds];exact h
def anyT (T:Bool × List (List Nat × List Nat)) (l l':List Bool) (i:Nat):Bool:=T.1&&freeT T.2 l i&&z63 T.2 l i&&(l.set i true==l')
theorem z2l (hT:rtab md ops=T) (h:anyT T l.toList l'.toList i=true):anyB md ops l l' i=true:=by
 simp only[anyT,Bool.and_eq_true]at h;obtain⟨⟨⟨h1,h2⟩,h3⟩,h4⟩:=h;have h5:=z90 h3 hT;have h6:=zch h4;subst hT;simp only[anyB,Bool.and_eq_true];exact⟨⟨⟨h1,by rw[zfv];exact h2⟩,h5⟩,h6⟩
def takeT (T:Bool × List (List Nat × List Nat)) (ds:List Nat) (l l':List Bool) (i:Nat):Bool:=T.1&&freeT T.2 l i&&z63 T.2 l i&&zaw T.2 l&&lastT T.2 l ds i&&(l.set i true==l')
theorem take_of (hT:rtab md ops=T) (h:takeT T ds l.toList l'.toList i=true):takeB md ops ds l l' i=true:=by
 simp only[takeT,Bool.and_eq_true]at h;obtain⟨⟨⟨⟨⟨h1,h2⟩,h3⟩,h4⟩,h5⟩,h6⟩:=h;have h7:=z90 h3 hT;have h8:=zch h6;subst hT;simp only[takeB,Bool.and_eq_true];exact⟨⟨⟨⟨⟨h1,by rw[zfv];exact h2⟩,h7⟩,by rw[zgt];exact h4⟩,by rw[last_eq];exact h5⟩,h8⟩
theorem z2w (hT:rtab md ops=T) (h:(z9r T.2 l.toList==[i]&&l.toList.set i true==l'.toList)=true):z9k md ops l l' i=true:=by
 simp only[Bool.and_eq_true]at h;obtain⟨h1,h2⟩:=h;subst hT;simp only[z9k,Bool.and_eq_true];exact⟨by rw[z7y];exact h1,zch h2⟩
theorem two_of (hT:rtab md ops=T) (h:(z9r T.2 l.toList==[i,j]&&l.toList.set i true==li.toList&&l.toList.set j true==lj.toList)=true):(Region.ready md ops l==[i,j]&&l.setIfInBounds i true==li&&l.setIfInBounds j true==lj)=true:=by
 simp only[Bool.and_eq_true]at h ⊢;obtain⟨⟨h1,h2⟩,h3⟩:=h;subst hT;exact⟨⟨by rw[z7y];exact h1,zch h2⟩,zch h3⟩
theorem z5v (hT:rtab md ops=T) (h:(z9r T.2 l.toList==[])=true):(Region.ready md ops l==[])=true:=by
 subst hT;rw[z7y];exact h
def upM (B:List Nat) (d:Nat):List Nat→Nat
 |[]=>0
 |n::r=>(2 ^ n ||| (if n<d then B.getD n 0 else 0)) ||| upM B d r
def z4j (T:List (List Nat × List Nat)) (B:List Nat):Bool:=(List.range T.length).all fun d=>match T[d]? with
 |some r=>(B.getD d 0 ||| upM B d r.1)==upM B d r.1
 |none=>false
theorem zgd {B:List Nat} {d i:Nat}:∀{ns:List Nat},(upM B d ns).testBit i=true→∃n ∈ ns,n=i∨(n<d∧(B.getD n 0).testBit i=true)
 |[],h=>by simp[upM]at h
 |n::r,h=>by
  unfold upM at h;rw[Nat.testBit_or,Nat.testBit_or,Bool.or_eq_true,Bool.or_eq_true]at h;rcases h with (h|h)|h
  · rw[Nat.testBit_two_pow]at h;exact⟨n,List.mem_cons_self,.inl (by simpa using h)⟩
  · by_cases hn:n<d
    · rw[if_pos hn]at h;exact⟨n,List.mem_cons_self,.inr ⟨hn,h⟩⟩
    · rw[if_neg hn]at h
      simp at h
  · obtain⟨m,hm,h2⟩:=zgd h;exact⟨m,List.mem_cons_of_mem _ hm,h2⟩
theorem zbf {T:List (List Nat × List Nat)} {B:List Nat} (hB:z4j T B=true):∀(fuel d:Nat),d<fuel→d<T.length→(B.getD d 0).testBit i=true→z9o T i fuel d=true
 |0,d,h,_,_=>by omega
 |fuel+1,d,h,hd,hb=>by
  have h1:=List.all_eq_true.1 hB d (List.mem_range.2 hd)
  cases hr:T[d]? with
  |none=>rw[hr]at h1;simp at h1
  |some r =>
   rw[hr]at h1;simp only[beq_iff_eq]at h1;have h2:(upM B d r.1).testBit i=true:=by rw[←h1,Nat.testBit_or,hb,Bool.true_or]
   obtain⟨n,hn,h3⟩:=zgd h2;unfold z9o;rw[hr];simp only;rw[List.any_eq_true];refine⟨n,hn,?_⟩;rcases h3 with rfl|⟨h4,h5⟩
   · simp
   · rw[zbf hB fuel n (by omega) (by omega) h5,Bool.or_true]
def lastW (T:List (List Nat × List Nat)) (B:List Nat) (l:List Bool) (ds:List Nat) (i:Nat):Bool:=ds.all fun d=>l.getD d true||(decide (d<T.length)&&(B.getD d 0).testBit i)
def takeW (T:Bool × List (List Nat × List Nat)) (B:List Nat) (ds:List Nat) (l l':List Bool) (i:Nat):Bool:=T.1&&freeT T.2 l i&&z63 T.2 l i&&zaw T.2 l&&lastW T.2 B l ds i&&(l.set i true==l')
theorem z2v {B:List Nat} (hT:rtab md ops=T) (hB:z4j T.2 B=true) (h:takeW T B ds l.toList l'.toList i=true):takeB md ops ds l l' i=true:=by
 refine take_of hT ?_;simp only[takeW,takeT,Bool.and_eq_true]at h ⊢;obtain⟨⟨⟨⟨⟨h1,h2⟩,h3⟩,h4⟩,h5⟩,h6⟩:=h;refine⟨⟨⟨⟨⟨h1,h2⟩,h3⟩,h4⟩,?_⟩,h6⟩;unfold lastW at h5;unfold lastT;rw[List.all_eq_true]at h5 ⊢;intro d hd;have h7:=h5 d hd;rw[Bool.or_eq_true,Bool.and_eq_true,decide_eq_true_eq]at h7;rcases h7 with h7|⟨h8,h9⟩
 · rw[h7,Bool.true_or]
 · rw[zbf hB _ d h8 h8 h9,Bool.or_true]
theorem z4a {P:Program} {Q:Exit→Act→World→Prop} {S:World→Prop} {n:Nat} {a:Act} {w:World} {B:List Nat} (hT:rtab md ops=T) (hB:z4j T.2 B=true) (h:z00 (rtab md ops=T)→z00 (z4j T.2 B=true)→z1c P md ops Q S ds n l a w):z1c P md ops Q S ds n l a w:=h ⟨hT⟩ ⟨hB⟩
end
def opsIn:Code→Nat→Option (Array Oper)
 |.region id ops _,k=>if id==k then some ops else none
 |.seq a b,k=>match opsIn a k with
  |some o=>some o
  |none=>opsIn b k
 |.cond _ a b,k=>match opsIn a k with
  |some o=>some o
  |none=>opsIn b k
 |.block _ c,k=>opsIn c k
 |.loop c,k=>opsIn c k
 |.scope c,k=>opsIn c k
 |.rangeFunc _ _ a b,k=>match opsIn a k with
  |some o=>some o
  |none=>opsIn b k
 |_,_=>none
def opsOf (f:Func) (k:Nat):Array Oper:=((f.body.bind fun c=>opsIn c k)).getD #[]
end Go.Proofs.YthebhbomlllpeaaGreatDoorW.PrintLast
namespace Go.Proofs.YthebhbomlllpeaaGreatDoorW.PrintWords
open Go.RowKit
namespace Kd
def tag {α:Type} (f:Nat→Nat) (d:Kd α):Kd (α × Nat) where
 sz:=d.sz
 E:=d.E
 K:=fun w x cs=>d.K w x.1 cs
 M:=fun w base ok x cs=>d.M w base (fun k=>ok k∧f k=x.2) x.1 cs
 K_len:=fun h=>d.K_len h
 K_one:=fun h=>d.K_one h
 K_below:=fun hb h=>d.K_below hb h
 K_of_M:=fun h=>d.K_of_M h
 M_mono:=fun hok h=>d.M_mono (fun k hk=>⟨hok k hk.1,hk.2⟩) h
 M_bound:=fun h=>d.M_mono (fun _ hk=>⟨⟨hk.1.1,hk.2⟩,hk.1.2⟩) (d.M_bound h)
 M_move:=fun hm h=>d.M_move (fun k hk=>hm k hk.1) h
 M_lower:=fun hb h=>d.M_lower hb h
def bare {α:Type} (d:Kd α):Kd α where
 sz:=d.sz
 E:=d.E
 K:=d.K
 M:=fun w base _ x cs=>d.M w base (fun _=>False) x cs
 K_len:=fun h=>d.K_len h
 K_one:=fun h=>d.K_one h
 K_below:=fun hb h=>d.K_below hb h
 K_of_M:=fun h=>d.K_of_M h
 M_mono:=fun _ h=>h
 M_bound:=fun h=>h
 M_move:=fun _ h=>d.M_move (fun _ hk=>hk.elim) h
 M_lower:=fun hb h=>d.M_lower hb h
def raw (sz:Nat):Kd (List Value) where
 sz:=sz
 E:=[]
 K:=fun _ x cs=>cs=x∧cs.length=sz∧∀u ∈ cs,u.oneCell'=true
 M:=fun _ _ _ x cs=>cs=x∧cs.length=sz∧∀u ∈ cs,u.oneCell'=true
 K_len:=fun h=>h.2.1
 K_one:=fun h=>h.2.2
 K_below:=fun _ h=>h
 K_of_M:=fun h=>h
 M_mono:=fun _ h=>h
 M_bound:=fun h=>h
 M_move:=fun _ h=>h
 M_lower:=fun _ h=>h
def S {α:Type} (d:Kd α) (e:Nat) (w:World) (base:Nat) (ok:Nat→Prop) (v:Value) (xs:List α):Prop:=∃f,(tag f d).R e w base ok v xs.zipIdx
section
variable {α β:Type} {d:Kd α} {d':Kd β} {e e':Nat} {w w1 W:World} {base b:Nat} {ok ok' okv oku:Nat→Prop} {u v:Value} {xs:List α} {ys:List β}
theorem S_nil (d:Kd α) (e:Nat) (w:World) (base:Nat) (ok:Nat→Prop):S d e w base ok (.slice none 0 0) []:=⟨fun _=>0,R_nil _ _ _ _ _⟩
end
def gap {α:Type} (f:Nat→Nat) (d:Kd α) (i:Nat) (c:List Value):Kd (α × Nat) where
 sz:=d.sz
 E:=d.E
 K:=fun w x cs=>(x.2=i→cs=c∧cs.length=d.sz∧∀u ∈ cs,u.oneCell'=true)∧(x.2≠i→d.K w x.1 cs)
 M:=fun w base ok x cs=>(x.2=i→cs=c∧cs.length=d.sz∧∀u ∈ cs,u.oneCell'=true)∧(x.2≠i→d.M w base (fun k=>ok k∧f k=x.2) x.1 cs)
 K_len:=fun {w x cs} h=>by
  by_cases hx:x.2=i
  · exact(h.1 hx).2.1
  · exact d.K_len (h.2 hx)
 K_one:=fun {w x cs} h=>by
  by_cases hx:x.2=i
  · exact(h.1 hx).2.2
  · exact d.K_one (h.2 hx)
 K_below:=fun hb h=>⟨h.1,fun hx=>d.K_below hb (h.2 hx)⟩
 K_of_M:=fun h=>⟨h.1,fun hx=>d.K_of_M (h.2 hx)⟩
 M_mono:=fun hok h=>⟨h.1,fun hx=>d.M_mono (fun k hk=>⟨hok k hk.1,hk.2⟩) (h.2 hx)⟩
 M_bound:=fun h=>⟨h.1,fun hx=>d.M_mono (fun _ hk=>⟨⟨hk.1.1,hk.2⟩,hk.1.2⟩) (d.M_bound (h.2 hx))⟩
 M_move:=fun hm h=>⟨h.1,fun hx=>d.M_move (fun k hk=>hm k hk.1) (h.2 hx)⟩
 M_lower:=fun hb h=>⟨h.1,fun hx=>d.M_lower hb (h.2 hx)⟩
def H {α:Type} (d:Kd α) (e:Nat) (w:World) (base:Nat) (ok:Nat→Prop) (v:Value) (xs:List α) (i:Int) (oki:Nat→Prop) (c:List Value):Prop :=
 (∀k,oki k→ok k)∧∃f,(gap f d i.toNat c).R e w base (fun k=>ok k∧¬oki k) v xs.zipIdx
end Kd

namespace Kd
structure Heap {α:Type} (d:Kd α):Prop where
 K:∀{w w1:World} {x:α} {cs:List Value},(∀k,k<w.heap.size→w1.heap[k]?=w.heap[k]?)→d.K w x cs→d.K w1 x cs
end Kd

def Kept (w W:World) (S:Nat→Prop):Prop:=w.heap.size≤W.heap.size∧∀i,i<w.heap.size→¬S i→W.heap[i]?=w.heap[i]?
namespace Kd
end Kd

def Foot (P:World→Prop) (W:World) (ok:Nat→Prop):Prop:=∀W':World,(∀k,ok k→k<W.heap.size→W'.heap[k]?=W.heap[k]?)→P W'
theorem heap_lt {W W1:World} {k:Nat} (h:W1.heap[k]?=W.heap[k]?) (hlt:k<W.heap.size):k<W1.heap.size:=by
 rw[Array.getElem?_eq_getElem hlt]at h;exact(Array.getElem?_eq_some_iff.1 h).1
namespace Foot
variable {P Q:World→Prop} {W W1:World} {ok ok':Nat→Prop}
theorem mono (h:Foot P W ok) (hok:∀k,ok k→ok' k):Foot P W ok':=fun W' hW=>h W' (fun k hk hlt=>hW k (hok k hk) hlt)
theorem step (h:Foot P W ok) (hm:∀k,ok k→k<W.heap.size→W1.heap[k]?=W.heap[k]?):Foot P W1 ok:=fun W' hW=>h W' (fun k hk hlt=>(hW k hk (heap_lt (hm k hk hlt) hlt)).trans (hm k hk hlt))
end Foot
namespace Kd
def F {α:Type} (d:Kd α) (W:World) (ok:Nat→Prop) (A:Option Addr) (n:Nat) (xs:List α):Prop:=Foot (fun W=>d.C W A n xs) W ok
def FK {α:Type} (d:Kd α) (W:World) (ok:Nat→Prop) (x:α) (c:List Value):Prop:=Foot (fun W=>d.K W x c) W ok
section
variable {α β:Type} {d:Kd α} {e base n n' cc g N:Nat} {ok ok' okp S:Nat→Prop} {w w0 w1 W W1:World} {A A':Option Addr} {u v v1:Value} {xs:List α} {xs':List β} {d':Kd β} {x:α} {c:List Value}
theorem F_nil (d:Kd α) (W:World) (ok:Nat→Prop):F d W ok none ([]:List α).length []:=fun W' _=>C_nil d W'
theorem FK_of_M (h:d.M W base ok x c):FK d W ok x c:=fun _ hW=>d.K_of_M (M_step h hW)
end
end Kd

namespace Kd
def z8t (sz:Nat) (n:Nat) (inner:List Value):List (List Value):=(List.range n).map fun j=>(inner.drop (j * sz)).take sz
theorem z4d (sz n:Nat) (inner:List Value):(z8t sz n inner).length=n:=by simp[z8t]
theorem zgg {sz n:Nat} {inner:List Value} {j:Nat} (hj:j<n):(z8t sz n inner)[j]?=some ((inner.drop (j * sz)).take sz):=by simp[z8t,hj]
theorem z9x {sz n:Nat} {inner:List Value} {j:Nat} {c:List Value} (h:(z8t sz n inner)[j]?=some c):c=(inner.drop (j * sz)).take sz:=by
 have hj:j<n:=by have:=(List.getElem?_eq_some_iff.1 h).1;rwa [z4d]at this
 rw[zgg hj]at h;injection h with h
 exact h.symm
theorem reps_raw {α:Type} {Rr:α→List Value→Prop} {sz:Nat} {xs:List α} {inner:List Value} (h:Reps Rr sz xs inner) (hR:∀x c,Rr x c→c.length=sz∧∀u ∈ c,u.oneCell'=true):Reps (fun x cs=>cs=x∧cs.length=sz∧∀u ∈ cs,u.oneCell'=true) sz (z8t sz xs.length inner) inner:=by
 refine⟨by rw[z4d];exact h.1,fun j p hj=>?_⟩;have hjl:j<xs.length:=by have:=(List.getElem?_eq_some_iff.1 hj).1;rwa [z4d]at this
 have hp:=z9x hj;exact⟨hp.symm,hR _ _ (h.2 j _ (List.getElem?_eq_getElem hjl))⟩
section
variable {α:Type} {d:Kd α} {e base n cc g:Nat} {ok ok' okp S:Nat→Prop} {w w1 W W1:World} {A:Option Addr} {u v v1:Value} {xs:List α} {x:α} {c:List Value}
def N {α:Type} (d:Kd α) (e:Nat) (w:World) (base:Nat) (ok:Nat→Prop) (v:Value) (xs:List α):Prop :=
 (∀k,v.ownBlock=some k→ok k)∧∃rows:List (List Value),rows.length=xs.length∧(raw d.sz).R e w base (fun k=>some k=v.ownBlock) v rows∧∀(j:Nat) (x:α) (c:List Value),xs[j]?=some x→rows[j]?=some c→FK d w (fun k=>ok k∧some k≠v.ownBlock) x c
theorem R_N (h:d.R e w base ok v xs):N d e w base ok v xs:=by
 obtain⟨h0,inner,ho,hr⟩:=h;refine⟨h0,z8t d.sz xs.length inner,z4d _ _ _,⟨fun k hk=>hk.symm,inner,by rw[z4d];exact ho,reps_raw hr (fun x c hp=>⟨d.K_len (d.K_of_M hp),d.K_one (d.K_of_M hp)⟩)⟩,fun j x c hx hc=>?_⟩;rw[z9x hc];exact FK_of_M (hr.2 j x hx)
theorem N_nil (d:Kd α) (e:Nat) (w:World) (base:Nat) (ok:Nat→Prop):N d e w base ok (.slice none 0 0) []:=R_N (R_nil _ _ _ _ _)
end
end Kd

namespace Kd
section
variable {α:Type} {d:Kd α} {e base n m:Nat} {ok:Nat→Prop} {w w':World} {v:Value} {A:Option Addr} {xs:List α}
theorem C_foot_ne {g:Nat} (hd:∀{W W':World} {x:α} {cs:List Value},d.K W x cs→d.K W' x cs) (h:d.C w A n xs) (hf:∀ad,A=some ad→0<n→ad.block≠g):∀W',z0v w W' g none→d.C W' A n xs:=by
 intro W' hk;refine⟨h.1,h.2.1,fun hn=>?_⟩;obtain⟨ad,he,hc⟩:=h.2.2 hn;refine⟨ad,he,fun j p hj=>?_⟩;obtain⟨cs,h1,h2,h3⟩:=hc j p hj;exact⟨cs,h1,hd h2,fun i u hu=>zfx hk (h3 i u hu) (by rw[zgk];exact hf ad he hn)⟩
end
end Kd

section
variable {P:Program} {d:Nat} {xs ys:Array Value} {f:Field} {fs:List Field} {a b:Value} {r s:Bool} {w:World}
theorem zaq (hn : (f.name == "_") = false) (ha : (part f.type xs f.offset).run P w = .ok a w) (hb : (part f.type ys f.offset).run P w = .ok b w) (he : (Op.equalIn d f.type a b).run P w = .ok r w) : (Op.eqFields d xs ys [f]).run P w = .ok r w := by
 have hn' : f.name ≠ "_" := by simpa using hn
 simp only[Op.eqFields,if_pos hn',Sem.run_bind,ha,hb,he,Result.andThen_ok]
 cases r <;> simp
theorem z83 (hn : (f.name == "_") = false) (ha : (part f.type xs f.offset).run P w = .ok a w) (hb : (part f.type ys f.offset).run P w = .ok b w) (he : (Op.equalIn d f.type a b).run P w = .ok r w) (hr : (Op.eqFields d xs ys fs).run P w = .ok s w) : (Op.eqFields d xs ys (f :: fs)).run P w = .ok (r && s) w := by
 have hn' : f.name ≠ "_" := by simpa using hn
 rw[Op.eqFields];simp only[if_pos hn',Sem.run_bind,ha,hb,he,Result.andThen_ok]
 cases r
 · simp
 · simpa using hr
theorem zg2 {t:TypeId} {fs:Array Field} (hu:P.underlying t=some (.struct fs)) (hp:P.stoodInHeld t=false) (h:(Op.eqFields d xs ys fs.toList).run P w=.ok r w):(Op.equalIn (d+1) t (.agg xs) (.agg ys)).run P w=.ok r w:=by
 have hf:P.fieldsOf t=fs:=by simp[Program.fieldsOf,hu]
 rw[run_equalIn_struct (P:=P) w d t xs ys (by rw[hf];exact hu) hp,hf];exact h
end
end Go.Proofs.YthebhbomlllpeaaGreatDoorW.PrintWords
namespace Go.Proofs.YthebhbomlllpeaaGreatDoorW.PrintWords
theorem Reps.one {α:Type} {R:α→List Value→Prop} {ps:List α} {cs:List Value} {p:α} {v:Value} (hp:R p [v]) (h:Reps R 1 ps cs):Reps R 1 (p::ps) (v::cs):=by
 refine⟨by simp[h.1],fun j q hq=>?_⟩
 cases j with
 |zero =>
  simp only[List.getElem?_cons_zero,Option.some.injEq]at hq;subst hq
  simpa using hp
 |succ j =>
  simp only[List.getElem?_cons_succ]at hq;have h1:=h.2 j q hq
  simpa [Nat.mul_one] using h1
end Go.Proofs.YthebhbomlllpeaaGreatDoorW.PrintWords
namespace Go.Proofs.YthebhbomlllpeaaGreatDoorW.PrintWords
open Go.RowKit
section
variable {P:Program} {ops:Array Oper} {rest:List Oper} {o:Oper} {a:Act} {Q:Exit→Act→World→Prop} {W:World}
theorem z45 (hw:Region.wanted o (yielded ops a.tmps)=true) (h:wpList P ops Q ({ o with guard:=none }::rest) a W):wpList P ops Q (o::rest) a W:=by
 have h1:Region.wanted { o with guard:=none } (yielded ops a.tmps)=true:=rfl;unfold wpList at h ⊢;rw[if_pos h1]at h;rw[if_pos hw];exact h
end
end Go.Proofs.YthebhbomlllpeaaGreatDoorW.PrintWords
namespace Go.Proofs.YthebhbomlllpeaaGreatDoorW.PrintMore
open Go.RowKit Go.Proofs.YthebhbomlllpeaaGreatDoorW.PrintWords
namespace Kd
open Go.Proofs.YthebhbomlllpeaaGreatDoorW.PrintWords.Kd
end Kd
namespace Kd
open Go.Proofs.YthebhbomlllpeaaGreatDoorW.PrintWords.Kd
end Kd
theorem z4g (k k':IntKind) (x y:Int):Builtin.max2 (.int k x) (.int k' y)=pure (.int k (if x<y then y else x)):=by simp only[Builtin.max2,gt_iff_lt]
theorem z4f (k k':IntKind) (x y:Int):Builtin.min2 (.int k x) (.int k' y)=pure (.int k (if y<x then y else x)):=by simp only[Builtin.min2]
theorem z50 (ats:Array TypeId) (ty:TypeId) (a b:Value):Builtin.max_ ats ty #[a,b]=(Builtin.max2 a b >>= fun s=>pure s):=by simp only[Builtin.max_,List.foldlM_cons,List.foldlM_nil]
theorem z4w (ats:Array TypeId) (ty:TypeId) (a b:Value):Builtin.min_ ats ty #[a,b]=(Builtin.min2 a b >>= fun s=>pure s):=by simp only[Builtin.min_,List.foldlM_cons,List.foldlM_nil]
theorem z3s (ats:Array TypeId) (ty:TypeId) (a b c:Value):Builtin.max_ ats ty #[a,b,c]=(Builtin.max2 a b >>= fun s=>Builtin.max2 s c >>= fun s=>pure s):=by simp only[Builtin.max_,List.foldlM_cons,List.foldlM_nil]
theorem z3p (ats:Array TypeId) (ty:TypeId) (a b c:Value):Builtin.min_ ats ty #[a,b,c]=(Builtin.min2 a b >>= fun s=>Builtin.min2 s c >>= fun s=>pure s):=by simp only[Builtin.min_,List.foldlM_cons,List.foldlM_nil]
theorem z48 (ats:Array TypeId) (ty:TypeId) (a b c d:Value):Builtin.max_ ats ty #[a,b,c,d]=(Builtin.max2 a b >>= fun s=>Builtin.max2 s c >>= fun s=>Builtin.max2 s d >>= fun s=>pure s):=by simp only[Builtin.max_,List.foldlM_cons,List.foldlM_nil]
theorem z4c (ats:Array TypeId) (ty:TypeId) (a b c d:Value):Builtin.min_ ats ty #[a,b,c,d]=(Builtin.min2 a b >>= fun s=>Builtin.min2 s c >>= fun s=>Builtin.min2 s d >>= fun s=>pure s):=by simp only[Builtin.min_,List.foldlM_cons,List.foldlM_nil]
end Go.Proofs.YthebhbomlllpeaaGreatDoorW.PrintMore
namespace Go.Proofs.YthebhbomlllpeaaGreatDoorW.PrintWords
open Go.RowKit
section
variable {P:Program} {ops:Array Oper} {rest:List Oper} {o:Oper} {a:Act} {Q:Exit→Act→World→Prop} {W:World}
theorem z0t {f:FuncId} {asv:Array Operand} {ts:Array TypeId} (_ho:o.op=.call { callee:=.value (.func f),args:=asv,argTypes:=ts }) (h:wpList P ops Q (o::rest) a W):wpList P ops Q (o::rest) a W:=h
theorem z23 {b:Builtin} {xs:Array Operand} {ts:Array TypeId} (_ho:o.op=.call { callee:=.builtin b,args:=xs,argTypes:=ts }) (h:wpList P ops Q (o::rest) a W):wpList P ops Q (o::rest) a W:=h
end
def mx (a b:Int):Int:=if a<b then b else a
def mn (a b:Int):Int:=if b<a then b else a
theorem z5p (w:World) (n:Nat):w.drewN n=w.drewN n:=rfl
namespace Kd
end Kd
end Go.Proofs.YthebhbomlllpeaaGreatDoorW.PrintWords
namespace Go.Proofs.YthebhbomlllpeaaGreatDoorW.PrintWords
open Go.RowKit
namespace Kd
def V {α:Type} (d:Kd α) (_e:Nat) (W:World) (_base:Nat) (ok:Nat→Prop) (v:Value) (xs:List α):Prop:=∃A c,v=.slice A xs.length c∧xs.length≤c∧F d W ok A xs.length xs
section
variable {α β:Type} {d:Kd α} {e base base' n m c g N' lo hi:Nat} {ok ok' S:Nat→Prop} {w W w1:World} {A:Option Addr} {ad:Addr} {u v v1:Value} {xs:List α}
theorem V_nil (d:Kd α) (e:Nat) (W:World) (base:Nat) (ok:Nat→Prop):V d e W base ok (.slice none 0 0) []:=⟨none,0,rfl,Nat.le_refl _,F_nil d W ok⟩
end
end Kd
end Go.Proofs.YthebhbomlllpeaaGreatDoorW.PrintWords
namespace Go.Proofs.YthebhbomlllpeaaGreatDoor.X
open Go.RowKit Go.Proofs.YthebhbomlllpeaaGreatDoorW.PrintWords Go.Proofs.YthebhbomlllpeaaGreatDoorW.PrintLast Go.Proofs.YthebhbomlllpeaaGreatDoorW.PrintMore
attribute [local go_sem] z4g z4f z50 z4w z3s z3p z48 z4c
def errW:Option Int→Value
 |none=>.nilIface
 |some c=>.iface 0 (.int .i64 c)
theorem z0q:errW none=.nilIface:=rfl
theorem z0p (c:Int):errW (some c)=.iface 0 (.int .i64 c):=rfl
theorem info53:(Tryz.prog.info? 53).map (fun i=>(i.zero,i.size,i.bytes))=some (some (.agg #[(.int .i64 0),(.string ⟨#[]⟩),(.int .i64 0)]),3,32):=by kernel_rfl
theorem info60:(Tryz.prog.info? 60).map (fun i=>(i.zero,i.size,i.bytes))=some (some (.agg #[(.string ⟨#[]⟩),(.int .i64 0),(.int .i64 0),(.string ⟨#[]⟩)]),4,48):=by kernel_rfl
structure S58 where
 f0:Int
 f1:Int
 f2:ByteArray
def z58:S58:=⟨(0:Int),(0:Int),(⟨#[]⟩:ByteArray)⟩
def k58:Kd S58:=Kd.iso (Kd.pair (Kd.int .i64) (Kd.pair (Kd.int .i64) Kd.string)) (fun x:S58=>(x.f0,x.f1,x.f2))
theorem k58_open {w:World} {x:S58} {cs:List Value} (h:k58.K w x cs):cs=[.int .i64 x.f0,.int .i64 x.f1,.string x.f2]:=by
 obtain⟨_,_,rfl,rfl,⟨_,_,rfl,rfl,rfl⟩⟩:=h;exact rfl
theorem k58_mkM (w:World) (base:Nat) (ok:Nat→Prop) (x:S58) :k58.M w base ok x [.int .i64 x.f0,.int .i64 x.f1,.string x.f2]:=⟨[.int .i64 x.f0],[.int .i64 x.f1,.string x.f2],rfl,rfl,⟨[.int .i64 x.f1],[.string x.f2],rfl,rfl,rfl⟩⟩
structure S108 where
 f0:Int
 f1:ByteArray
 f2:Int
def z108:S108:=⟨(0:Int),(⟨#[]⟩:ByteArray),(0:Int)⟩
def k108:Kd S108:=Kd.iso (Kd.pair (Kd.int .i64) (Kd.pair Kd.string (Kd.int .i64))) (fun x:S108=>(x.f0,x.f1,x.f2))
theorem zbk {w:World} {x:S108} {cs:List Value} (h:k108.K w x cs):cs=[.int .i64 x.f0,.string x.f1,.int .i64 x.f2]:=by
 obtain⟨_,_,rfl,rfl,⟨_,_,rfl,rfl,rfl⟩⟩:=h;exact rfl
theorem k108_mk (w:World) (x:S108) :k108.K w x [.int .i64 x.f0,.string x.f1,.int .i64 x.f2]:=⟨[.int .i64 x.f0],[.string x.f1,.int .i64 x.f2],rfl,rfl,⟨[.string x.f1],[.int .i64 x.f2],rfl,rfl,rfl⟩⟩
theorem k108_mkM (w:World) (base:Nat) (ok:Nat→Prop) (x:S108) :k108.M w base ok x [.int .i64 x.f0,.string x.f1,.int .i64 x.f2]:=⟨[.int .i64 x.f0],[.string x.f1,.int .i64 x.f2],rfl,rfl,⟨[.string x.f1],[.int .i64 x.f2],rfl,rfl,rfl⟩⟩
def z2f (xs:List S108) (i:Int):S108:=xs.getD i.toNat z108
theorem z8w {w:World} {A:Option Addr} {n:Nat} {xs:List S108} (h:Kd.C k108 w A n xs) (i:Int) (h0:0≤i) (h1:i<n):∃ad ,A=some ad∧w.cell? (ad.add (i.toNat * 3))=some (.int .i64 (z2f xs i).f0)∧w.cell? ⟨(ad.add (i.toNat * 3)).block,(ad.add (i.toNat * 3)).off+1,none⟩=some (.string (z2f xs i).f1)∧w.cell? ⟨(ad.add (i.toNat * 3)).block,(ad.add (i.toNat * 3)).off+2,none⟩=some (.int .i64 (z2f xs i).f2):=by
 obtain⟨ad,c,e,_,hK,hc0⟩:=Kd.C_get h z108 i h0 h1;have hc:∀j u,c[j]?=some u→w.cell? (ad.add (i.toNat * 3+j))=some u:=hc0;obtain rfl:=zbk hK;exact⟨ad,e,hc 0 _ rfl,by rw[←z1v _ _ 1 (by omega)];exact hc 1 _ rfl,by rw[←z1v _ _ 2 (by omega)];exact hc 2 _ rfl⟩
structure S60 where
 f0:ByteArray
 f1:S58
def z60:S60:=⟨(⟨#[]⟩:ByteArray),z58⟩
def k60:Kd S60:=Kd.iso (Kd.pair Kd.string k58) (fun x:S60=>(x.f0,x.f1))
theorem z81 {w:World} {x:S60} {cs:List Value} (h:k60.K w x cs):cs=[.string x.f0,.int .i64 x.f1.f0,.int .i64 x.f1.f1,.string x.f1.f2]:=by
 obtain⟨_,_,rfl,rfl,s1⟩:=h;obtain rfl:=k58_open s1;exact rfl
theorem z8a (w:World) (base:Nat) (ok:Nat→Prop) (x:S60) :k60.M w base ok x [.string x.f0,.int .i64 x.f1.f0,.int .i64 x.f1.f1,.string x.f1.f2]:=⟨[.string x.f0],[.int .i64 x.f1.f0,.int .i64 x.f1.f1,.string x.f1.f2],rfl,rfl,(k58_mkM w base ok x.f1 )⟩
def z2g (xs:List S60) (i:Int):S60:=xs.getD i.toNat z60
theorem ze1 {w:World} {A:Option Addr} {n:Nat} {xs:List S60} (h:Kd.C k60 w A n xs) (i:Int) (h0:0≤i) (h1:i<n):∃ad ,A=some ad∧w.cell? (ad.add (i.toNat * 4))=some (.string (z2g xs i).f0)∧w.cell? ⟨(ad.add (i.toNat * 4)).block,(ad.add (i.toNat * 4)).off+1,none⟩=some (.int .i64 (z2g xs i).f1.f0)∧w.cell? ⟨(ad.add (i.toNat * 4)).block,(ad.add (i.toNat * 4)).off+2,none⟩=some (.int .i64 (z2g xs i).f1.f1)∧w.cell? ⟨(ad.add (i.toNat * 4)).block,(ad.add (i.toNat * 4)).off+3,none⟩=some (.string (z2g xs i).f1.f2):=by
 obtain⟨ad,c,e,_,hK,hc0⟩:=Kd.C_get h z60 i h0 h1;have hc:∀j u,c[j]?=some u→w.cell? (ad.add (i.toNat * 4+j))=some u:=hc0;obtain rfl:=z81 hK;exact⟨ad,e,hc 0 _ rfl,by rw[←z1v _ _ 1 (by omega)];exact hc 1 _ rfl,by rw[←z1v _ _ 2 (by omega)];exact hc 2 _ rfl,by rw[←z1v _ _ 3 (by omega)];exact hc 3 _ rfl⟩
structure S25 where
 f0:ByteArray
 f1:(List S60)
def z25:S25:=⟨(⟨#[]⟩:ByteArray),([]:List S60)⟩
def k25:Kd S25:=Kd.iso (Kd.pair Kd.string (Kd.slice 60 k60)) (fun x:S25=>(x.f0,x.f1))
theorem ze3 {w:World} {x:S25} {cs:List Value} (h:k25.K w x cs):∃A1 c1,cs=[.string x.f0,.slice A1 x.f1.length c1]∧x.f1.length≤c1∧k60.C w A1 x.f1.length x.f1:=by
 obtain⟨_,_,rfl,rfl,⟨A1,c1,rfl,l1,g1⟩⟩:=h;exact⟨A1,c1,rfl,l1,g1⟩
theorem zgq (w:World) (base:Nat) (ok:Nat→Prop) (x:S25) {v1:Value} (g1:k60.R 60 w base ok v1 x.f1):k25.M w base ok x [.string x.f0,v1]:=⟨[.string x.f0],[v1],rfl,rfl,⟨v1,rfl,g1⟩⟩
structure S69 where
 f0:Int
 f1:ByteArray
def z69:S69:=⟨(0:Int),(⟨#[]⟩:ByteArray)⟩
def k69:Kd S69:=Kd.iso (Kd.pair (Kd.int .i64) Kd.string) (fun x:S69=>(x.f0,x.f1))
theorem zar {w:World} {x:S69} {cs:List Value} (h:k69.K w x cs):cs=[.int .i64 x.f0,.string x.f1]:=by
 obtain⟨_,_,rfl,rfl,rfl⟩:=h;exact rfl
theorem z4e (w:World) (base:Nat) (ok:Nat→Prop) (x:S69) :k69.M w base ok x [.int .i64 x.f0,.string x.f1]:=⟨[.int .i64 x.f0],[.string x.f1],rfl,rfl,rfl⟩
def z3z (xs:List S69) (i:Int):S69:=xs.getD i.toNat z69
theorem z9m {w:World} {A:Option Addr} {n:Nat} {xs:List S69} (h:Kd.C k69 w A n xs) (i:Int) (h0:0≤i) (h1:i<n):∃ad ,A=some ad∧w.cell? (ad.add (i.toNat * 2))=some (.int .i64 (z3z xs i).f0)∧w.cell? ⟨(ad.add (i.toNat * 2)).block,(ad.add (i.toNat * 2)).off+1,none⟩=some (.string (z3z xs i).f1):=by
 obtain⟨ad,c,e,_,hK,hc0⟩:=Kd.C_get h z69 i h0 h1;have hc:∀j u,c[j]?=some u→w.cell? (ad.add (i.toNat * 2+j))=some u:=hc0;obtain rfl:=zar hK;exact⟨ad,e,hc 0 _ rfl,by rw[←z1v _ _ 1 (by omega)];exact hc 1 _ rfl⟩
structure S62 where
 f0:Int
 f1:S25
 f2:ByteArray
 f3:S60
 f4:S60
 f5:S60
 f6:(List S69)
def z62:S62:=⟨(0:Int),z25,(⟨#[]⟩:ByteArray),z60,z60,z60,([]:List S69)⟩
def k62:Kd S62:=Kd.iso (Kd.pair (Kd.int .i64) (Kd.pair k25 (Kd.pair Kd.string (Kd.pair k60 (Kd.pair k60 (Kd.pair k60 (Kd.slice 69 k69))))))) (fun x:S62=>(x.f0,x.f1,x.f2,x.f3,x.f4,x.f5,x.f6))
theorem zah {w:World} {x:S62} {cs:List Value} (h:k62.K w x cs):∃A2 c2 A16 c16,cs=[.int .i64 x.f0,.string x.f1.f0,.slice A2 x.f1.f1.length c2,.string x.f2,.string x.f3.f0,.int .i64 x.f3.f1.f0,.int .i64 x.f3.f1.f1,.string x.f3.f1.f2,.string x.f4.f0,.int .i64 x.f4.f1.f0,.int .i64 x.f4.f1.f1,.string x.f4.f1.f2,.string x.f5.f0,.int .i64 x.f5.f1.f0,.int .i64 x.f5.f1.f1,.string x.f5.f1.f2,.slice A16 x.f6.length c16]∧x.f1.f1.length≤c2∧k60.C w A2 x.f1.f1.length x.f1.f1∧x.f6.length≤c16∧k69.C w A16 x.f6.length x.f6:=by
 obtain⟨_,_,rfl,rfl,⟨_,_,rfl,s1,⟨_,_,rfl,rfl,⟨_,_,rfl,s4,⟨_,_,rfl,s8,⟨_,_,rfl,s12,⟨A16,c16,rfl,l16,g16⟩⟩⟩⟩⟩⟩⟩:=h;obtain⟨A2,c2,rfl,l2,g2⟩:=ze3 s1;obtain rfl:=z81 s4;obtain rfl:=z81 s8;obtain rfl:=z81 s12;exact⟨A2,c2,A16,c16,rfl,l2,g2,l16,g16⟩
theorem k62_mkM (w:World) (base:Nat) (ok:Nat→Prop) (x:S62) {v2:Value} (g2:k60.R 60 w base ok v2 x.f1.f1) {v16:Value} (g16:k69.R 69 w base ok v16 x.f6):k62.M w base ok x [.int .i64 x.f0,.string x.f1.f0,v2,.string x.f2,.string x.f3.f0,.int .i64 x.f3.f1.f0,.int .i64 x.f3.f1.f1,.string x.f3.f1.f2,.string x.f4.f0,.int .i64 x.f4.f1.f0,.int .i64 x.f4.f1.f1,.string x.f4.f1.f2,.string x.f5.f0,.int .i64 x.f5.f1.f0,.int .i64 x.f5.f1.f1,.string x.f5.f1.f2,v16]:=⟨[.int .i64 x.f0],[.string x.f1.f0,v2,.string x.f2,.string x.f3.f0,.int .i64 x.f3.f1.f0,.int .i64 x.f3.f1.f1,.string x.f3.f1.f2,.string x.f4.f0,.int .i64 x.f4.f1.f0,.int .i64 x.f4.f1.f1,.string x.f4.f1.f2,.string x.f5.f0,.int .i64 x.f5.f1.f0,.int .i64 x.f5.f1.f1,.string x.f5.f1.f2,v16],rfl,rfl,⟨[.string x.f1.f0,v2],[.string x.f2,.string x.f3.f0,.int .i64 x.f3.f1.f0,.int .i64 x.f3.f1.f1,.string x.f3.f1.f2,.string x.f4.f0,.int .i64 x.f4.f1.f0,.int .i64 x.f4.f1.f1,.string x.f4.f1.f2,.string x.f5.f0,.int .i64 x.f5.f1.f0,.int .i64 x.f5.f1.f1,.string x.f5.f1.f2,v16],rfl,(zgq w base ok x.f1 g2),⟨[.string x.f2],[.string x.f3.f0,.int .i64 x.f3.f1.f0,.int .i64 x.f3.f1.f1,.string x.f3.f1.f2,.string x.f4.f0,.int .i64 x.f4.f1.f0,.int .i64 x.f4.f1.f1,.string x.f4.f1.f2,.string x.f5.f0,.int .i64 x.f5.f1.f0,.int .i64 x.f5.f1.f1,.string x.f5.f1.f2,v16],rfl,rfl,⟨[.string x.f3.f0,.int .i64 x.f3.f1.f0,.int .i64 x.f3.f1.f1,.string x.f3.f1.f2],[.string x.f4.f0,.int .i64 x.f4.f1.f0,.int .i64 x.f4.f1.f1,.string x.f4.f1.f2,.string x.f5.f0,.int .i64 x.f5.f1.f0,.int .i64 x.f5.f1.f1,.string x.f5.f1.f2,v16],rfl,(z8a w base ok x.f3 ),⟨[.string x.f4.f0,.int .i64 x.f4.f1.f0,.int .i64 x.f4.f1.f1,.string x.f4.f1.f2],[.string x.f5.f0,.int .i64 x.f5.f1.f0,.int .i64 x.f5.f1.f1,.string x.f5.f1.f2,v16],rfl,(z8a w base ok x.f4 ),⟨[.string x.f5.f0,.int .i64 x.f5.f1.f0,.int .i64 x.f5.f1.f1,.string x.f5.f1.f2],[v16],rfl,(z8a w base ok x.f5 ),⟨v16,rfl,g16⟩⟩⟩⟩⟩⟩⟩
def z3o (xs:List S62) (i:Int):S62:=xs.getD i.toNat z62
theorem at_T62 {w:World} {A:Option Addr} {n:Nat} {xs:List S62} (h:Kd.C k62 w A n xs) (i:Int) (h0:0≤i) (h1:i<n):∃ad A2 c2 A16 c16,A=some ad∧w.cell? (ad.add (i.toNat * 17))=some (.int .i64 (z3o xs i).f0)∧w.cell? ⟨(ad.add (i.toNat * 17)).block,(ad.add (i.toNat * 17)).off+1,none⟩=some (.string (z3o xs i).f1.f0)∧w.cell? ⟨(ad.add (i.toNat * 17)).block,(ad.add (i.toNat * 17)).off+2,none⟩=some (.slice A2 (z3o xs i).f1.f1.length c2)∧w.cell? ⟨(ad.add (i.toNat * 17)).block,(ad.add (i.toNat * 17)).off+3,none⟩=some (.string (z3o xs i).f2)∧w.cell? ⟨(ad.add (i.toNat * 17)).block,(ad.add (i.toNat * 17)).off+4,none⟩=some (.string (z3o xs i).f3.f0)∧w.cell? ⟨(ad.add (i.toNat * 17)).block,(ad.add (i.toNat * 17)).off+5,none⟩=some (.int .i64 (z3o xs i).f3.f1.f0)∧w.cell? ⟨(ad.add (i.toNat * 17)).block,(ad.add (i.toNat * 17)).off+6,none⟩=some (.int .i64 (z3o xs i).f3.f1.f1)∧w.cell? ⟨(ad.add (i.toNat * 17)).block,(ad.add (i.toNat * 17)).off+7,none⟩=some (.string (z3o xs i).f3.f1.f2)∧w.cell? ⟨(ad.add (i.toNat * 17)).block,(ad.add (i.toNat * 17)).off+8,none⟩=some (.string (z3o xs i).f4.f0)∧w.cell? ⟨(ad.add (i.toNat * 17)).block,(ad.add (i.toNat * 17)).off+9,none⟩=some (.int .i64 (z3o xs i).f4.f1.f0)∧w.cell? ⟨(ad.add (i.toNat * 17)).block,(ad.add (i.toNat * 17)).off+10,none⟩=some (.int .i64 (z3o xs i).f4.f1.f1)∧w.cell? ⟨(ad.add (i.toNat * 17)).block,(ad.add (i.toNat * 17)).off+11,none⟩=some (.string (z3o xs i).f4.f1.f2)∧w.cell? ⟨(ad.add (i.toNat * 17)).block,(ad.add (i.toNat * 17)).off+12,none⟩=some (.string (z3o xs i).f5.f0)∧w.cell? ⟨(ad.add (i.toNat * 17)).block,(ad.add (i.toNat * 17)).off+13,none⟩=some (.int .i64 (z3o xs i).f5.f1.f0)∧w.cell? ⟨(ad.add (i.toNat * 17)).block,(ad.add (i.toNat * 17)).off+14,none⟩=some (.int .i64 (z3o xs i).f5.f1.f1)∧w.cell? ⟨(ad.add (i.toNat * 17)).block,(ad.add (i.toNat * 17)).off+15,none⟩=some (.string (z3o xs i).f5.f1.f2)∧w.cell? ⟨(ad.add (i.toNat * 17)).block,(ad.add (i.toNat * 17)).off+16,none⟩=some (.slice A16 (z3o xs i).f6.length c16)∧(z3o xs i).f1.f1.length≤c2∧k60.C w A2 (z3o xs i).f1.f1.length (z3o xs i).f1.f1∧(z3o xs i).f6.length≤c16∧k69.C w A16 (z3o xs i).f6.length (z3o xs i).f6:=by
 obtain⟨ad,c,e,_,hK,hc0⟩:=Kd.C_get h z62 i h0 h1;have hc:∀j u,c[j]?=some u→w.cell? (ad.add (i.toNat * 17+j))=some u:=hc0;obtain⟨A2,c2,A16,c16,rfl,l2,g2,l16,g16⟩:=zah hK;exact⟨ad,A2,c2,A16,c16,e,hc 0 _ rfl,by rw[←z1v _ _ 1 (by omega)];exact hc 1 _ rfl,by rw[←z1v _ _ 2 (by omega)];exact hc 2 _ rfl,by rw[←z1v _ _ 3 (by omega)];exact hc 3 _ rfl,by rw[←z1v _ _ 4 (by omega)];exact hc 4 _ rfl,by rw[←z1v _ _ 5 (by omega)];exact hc 5 _ rfl,by rw[←z1v _ _ 6 (by omega)];exact hc 6 _ rfl,by rw[←z1v _ _ 7 (by omega)];exact hc 7 _ rfl,by rw[←z1v _ _ 8 (by omega)];exact hc 8 _ rfl,by rw[←z1v _ _ 9 (by omega)];exact hc 9 _ rfl,by rw[←z1v _ _ 10 (by omega)];exact hc 10 _ rfl,by rw[←z1v _ _ 11 (by omega)];exact hc 11 _ rfl,by rw[←z1v _ _ 12 (by omega)];exact hc 12 _ rfl,by rw[←z1v _ _ 13 (by omega)];exact hc 13 _ rfl,by rw[←z1v _ _ 14 (by omega)];exact hc 14 _ rfl,by rw[←z1v _ _ 15 (by omega)];exact hc 15 _ rfl,by rw[←z1v _ _ 16 (by omega)];exact hc 16 _ rfl,l2,g2,l16,g16⟩
structure S33 where
 f0:S25
 f1:Int
 f2:(List S62)
def z33:S33:=⟨z25,(0:Int),([]:List S62)⟩
def k33:Kd S33:=Kd.iso (Kd.pair k25 (Kd.pair (Kd.int .i64) (Kd.slice 62 k62))) (fun x:S33=>(x.f0,x.f1,x.f2))
theorem k33_open {w:World} {x:S33} {cs:List Value} (h:k33.K w x cs):∃A1 c1 A3 c3,cs=[.string x.f0.f0,.slice A1 x.f0.f1.length c1,.int .i64 x.f1,.slice A3 x.f2.length c3]∧x.f0.f1.length≤c1∧k60.C w A1 x.f0.f1.length x.f0.f1∧x.f2.length≤c3∧k62.C w A3 x.f2.length x.f2:=by
 obtain⟨_,_,rfl,s0,⟨_,_,rfl,rfl,⟨A3,c3,rfl,l3,g3⟩⟩⟩:=h;obtain⟨A1,c1,rfl,l1,g1⟩:=ze3 s0;exact⟨A1,c1,A3,c3,rfl,l1,g1,l3,g3⟩
theorem k33_mkM (w:World) (base:Nat) (ok:Nat→Prop) (x:S33) {v1:Value} (g1:k60.R 60 w base ok v1 x.f0.f1) {v3:Value} (g3:k62.R 62 w base ok v3 x.f2):k33.M w base ok x [.string x.f0.f0,v1,.int .i64 x.f1,v3]:=⟨[.string x.f0.f0,v1],[.int .i64 x.f1,v3],rfl,(zgq w base ok x.f0 g1),⟨[.int .i64 x.f1],[v3],rfl,rfl,⟨v3,rfl,g3⟩⟩⟩
def z64 (xs:List S33) (i:Int):S33:=xs.getD i.toNat z33
theorem zfa {w:World} {A:Option Addr} {n:Nat} {xs:List S33} (h:Kd.C k33 w A n xs) (i:Int) (h0:0≤i) (h1:i<n):∃ad A1 c1 A3 c3,A=some ad∧w.cell? (ad.add (i.toNat * 4))=some (.string (z64 xs i).f0.f0)∧w.cell? ⟨(ad.add (i.toNat * 4)).block,(ad.add (i.toNat * 4)).off+1,none⟩=some (.slice A1 (z64 xs i).f0.f1.length c1)∧w.cell? ⟨(ad.add (i.toNat * 4)).block,(ad.add (i.toNat * 4)).off+2,none⟩=some (.int .i64 (z64 xs i).f1)∧w.cell? ⟨(ad.add (i.toNat * 4)).block,(ad.add (i.toNat * 4)).off+3,none⟩=some (.slice A3 (z64 xs i).f2.length c3)∧(z64 xs i).f0.f1.length≤c1∧k60.C w A1 (z64 xs i).f0.f1.length (z64 xs i).f0.f1∧(z64 xs i).f2.length≤c3∧k62.C w A3 (z64 xs i).f2.length (z64 xs i).f2:=by
 obtain⟨ad,c,e,_,hK,hc0⟩:=Kd.C_get h z33 i h0 h1;have hc:∀j u,c[j]?=some u→w.cell? (ad.add (i.toNat * 4+j))=some u:=hc0;obtain⟨A1,c1,A3,c3,rfl,l1,g1,l3,g3⟩:=k33_open hK;exact⟨ad,A1,c1,A3,c3,e,hc 0 _ rfl,by rw[←z1v _ _ 1 (by omega)];exact hc 1 _ rfl,by rw[←z1v _ _ 2 (by omega)];exact hc 2 _ rfl,by rw[←z1v _ _ 3 (by omega)];exact hc 3 _ rfl,l1,g1,l3,g3⟩
structure S53 where
 f0:Int
 f1:ByteArray
 f2:Int
def z53:S53:=⟨(0:Int),(⟨#[]⟩:ByteArray),(0:Int)⟩
def k53:Kd S53:=Kd.iso (Kd.pair (Kd.int .i64) (Kd.pair Kd.string (Kd.int .i64))) (fun x:S53=>(x.f0,x.f1,x.f2))
theorem k53_open {w:World} {x:S53} {cs:List Value} (h:k53.K w x cs):cs=[.int .i64 x.f0,.string x.f1,.int .i64 x.f2]:=by
 obtain⟨_,_,rfl,rfl,⟨_,_,rfl,rfl,rfl⟩⟩:=h;exact rfl
theorem k53_mkM (w:World) (base:Nat) (ok:Nat→Prop) (x:S53) :k53.M w base ok x [.int .i64 x.f0,.string x.f1,.int .i64 x.f2]:=⟨[.int .i64 x.f0],[.string x.f1,.int .i64 x.f2],rfl,rfl,⟨[.string x.f1],[.int .i64 x.f2],rfl,rfl,rfl⟩⟩
def z66 (xs:List S53) (i:Int):S53:=xs.getD i.toNat z53
theorem at_T53 {w:World} {A:Option Addr} {n:Nat} {xs:List S53} (h:Kd.C k53 w A n xs) (i:Int) (h0:0≤i) (h1:i<n):∃ad ,A=some ad∧w.cell? (ad.add (i.toNat * 3))=some (.int .i64 (z66 xs i).f0)∧w.cell? ⟨(ad.add (i.toNat * 3)).block,(ad.add (i.toNat * 3)).off+1,none⟩=some (.string (z66 xs i).f1)∧w.cell? ⟨(ad.add (i.toNat * 3)).block,(ad.add (i.toNat * 3)).off+2,none⟩=some (.int .i64 (z66 xs i).f2):=by
 obtain⟨ad,c,e,_,hK,hc0⟩:=Kd.C_get h z53 i h0 h1;have hc:∀j u,c[j]?=some u→w.cell? (ad.add (i.toNat * 3+j))=some u:=hc0;obtain rfl:=k53_open hK;exact⟨ad,e,hc 0 _ rfl,by rw[←z1v _ _ 1 (by omega)];exact hc 1 _ rfl,by rw[←z1v _ _ 2 (by omega)];exact hc 2 _ rfl⟩
structure S27 where
 f0:(List S33)
 f1:S25
end Go.Proofs.YthebhbomlllpeaaGreatDoor.X
namespace Go.Proofs.YthebhbomlllpeaaGreatDoor.X
open Go.ChangeShapes Go.WideShapes Go.ChangeAt Go.RowKit
theorem own:ownKnob Tryz.prog.godebug=none:=by kernel_rfl
def zfw : List (String × DataW Unit) := [("math/bits.deBruijn32tab", Rows.laid_math_bits_deBruijn32tab), ("math/bits.deBruijn64tab", Rows.laid_math_bits_deBruijn64tab), ("internal/strconv.uint64pow10", Rows.laid_internal_strconv_uint64pow10), ("strconv.ErrRange", Rows.laid_strconv_ErrRange), ("strconv.ErrSyntax", Rows.laid_strconv_ErrSyntax)]
theorem gPow1 : Tryz.prog.globalNamed "internal/strconv.uint64pow10" = some 1 := by kernel_rfl
theorem tPow1:(Tryz.prog.globals[1]?).map (·.type)=some 202:=by kernel_rfl
theorem tBru1:(Tryz.prog.globals[5]?).map (·.type)=some 213:=by kernel_rfl
theorem tSyn1:(Tryz.prog.globals[2]?).map (·.type)=some 150:=by kernel_rfl
theorem tRan1:(Tryz.prog.globals[3]?).map (·.type)=some 150:=by kernel_rfl
theorem star1 : "*" ++ "errors.errorString" = "*errors.errorString" := by decide
theorem rowErr (u : TypeId) (h : Tryz.prog.typeName? 3 u = some "*errors.errorString") : u = 209 :=
 typeName_ptr_named (nm := "errors.errorString") (by rw [star1]; kernel_rfl) (by kernel_rfl) (by decide) u (by rw [star1]; exact h)
theorem ze8:Tryz.prog.cellsOf 211=1:=by kernel_rfl
theorem ze0:Tryz.prog.cellsOf 9=1:=by kernel_rfl
theorem laidW_of {W:World} (h0:laidMetH Tryz.prog zfw W):LaidW W:=by
 rw[MakeChecks.laidMetH_plain _ _ _ (by kernel_rfl)]at h0;have h1:=laidMet.tail h0;have h2:=laidMet.tail h1;have h3:=laidMet.tail h2;have h4:=laidMet.tail h3;obtain⟨a0,s0,hv0,_⟩:=laid_sentinel h3 gRan tRan1 Tryz.underlying150 rowErr Tryz.underlying209 Tryz.underlying211 rfl rfl Tryz.underlying9 ze8 ze0;obtain⟨a1,s1,hv1,_⟩:=laid_sentinel h4 gSyn tSyn1 Tryz.underlying150 rowErr Tryz.underlying209 Tryz.underlying211 rfl rfl Tryz.underlying9 ze8 ze0;exact ⟨Lib.tabIs_of_head (rest:=_) gPow1 tPow1 Tryz.underlying202 Tryz.underlying161 (by kernel_rfl) (by kernel_rfl) h2,
  Lib.tabIs_of_head (zs:=zdr) zda tBru1 Tryz.underlying213 Tryz.underlying5 (by kernel_rfl) (by kernel_rfl) h1,⟨_,_,hv1⟩,⟨_,_,hv0⟩⟩
noncomputable def z8s (os:Os):World:=World.doorLaid Tryz.prog 600 os
theorem laid_met (os:Os) (args:Array Value):laidMetH Tryz.prog zfw ((z8s os).forCall (fun _ _=>0) ⟨#[],args,[]⟩).memory:=by
 rw[MakeChecks.laidMetH_plain _ _ _ (by kernel_rfl)];exact laidMet_of_run' 8 (by kernel_rfl) (by kernel_rfl)
end Go.Proofs.YthebhbomlllpeaaGreatDoor.X
namespace Go.Proofs.YthebhbomlllpeaaGreatDoor.X
def z1p (c:UInt8):Bool:=decide (97≤c.toNat∧c.toNat≤122)
def z1d (c:UInt8):Bool:=decide (65≤c.toNat∧c.toNat≤90)
def z1i (c:UInt8):Bool:=decide (48≤c.toNat∧c.toNat≤57)
def lowB (c:UInt8):Bool:=z1p c||z1i c||c==95
def signB (c:UInt8):Bool:=lowB c||z1d c
def z2m (c:UInt8):Bool:=c==32||c==9||c==10
def keysL:List (List UInt8):=[[110,111,116],[105,115],[112,108,117,115],[109,105,110,117,115],[116,105,109,101,115],[119,97,108,107],[99,111,117,110,116],[115,117,109],[109,105,110],[109,97,120],[109,101,97,110]]
def keyL (s:List UInt8):Bool:=keysL.contains s
def runN (p:UInt8→Bool):List UInt8→Nat
 |[]=>0
 |c::r=>if p c then runN p r+1 else 0
def twoB (s:List UInt8):Bool:=s.take 2==[60,61]||s.take 2==[33,61]||s.take 2==[58,45]||s.take 2==[63,45]
def oneB (c:UInt8):Bool:=[40,41,44,46,60,61,47,124,42,43,63,94].contains c
def z5m:List UInt8→Bool
 |[]=>false
 |c::_=>z1i c
def valB (c:UInt8) (r:List UInt8):Bool:=c==35||z1i c||(c==45&&z5m r)
def nextN (nm vl:List UInt8→Bool):List UInt8→Option (Nat × Nat)
 |[]=>none
 |c::r =>
  if z1p c then(if nm ((c::r).take (runN lowB (c::r)))then some (1,runN lowB (c::r))else none)
  else if z1d c then(if runN signB (c::r)≤40 then some (2,runN signB (c::r))else none)
  else if valB c r then(if vl ((c::r).take (1+runN signB r))then some (3,1+runN signB r)else none)
  else if twoB (c::r)then some (4,2)
  else if oneB c then some (4,1)
  else none
theorem z3c (p:UInt8→Bool):∀l,runN p l≤l.length
 |[]=>Nat.le_refl _
 |c::r=>by
  simp only[runN];have:=z3c p r
  split <;> simp <;> omega
theorem z5n (p:UInt8→Bool):∀l,runN p (l.take (runN p l))=runN p l
 |[]=>rfl
 |c::r=>by
  simp only[runN]
  split
  · rename_i h;simp only[List.take_succ_cons,runN,h,if_true,z5n p r]
  · simp[runN]
theorem z6y (p:UInt8→Bool) (x:UInt8) (b:List UInt8) (hx:p x=false):∀l,runN p (l++x::b)=runN p l
 |[]=>by simp[runN,hx]
 |c::r=>by
  simp only[List.cons_append,runN,z6y p x b hx r]
theorem z4k {nm vl:List UInt8→Bool} {s:List UInt8} {k n:Nat} (h:nextN nm vl s=some (k,n)):1≤n∧n≤s.length∧1≤k∧k≤4:=by
 cases s with
 |nil=>cases h
 |cons c r =>
  have h1:=z3c lowB (c::r);have h2:=z3c signB (c::r);have h3:=z3c signB r;simp only[nextN]at h
  split at h
  · rename_i hs
    split at h
    · injection h with h;injection h with e1 e2
      have:lowB c=true:=by unfold lowB;simp[hs]
      have:runN lowB (c::r)=runN lowB r+1:=by simp only[runN,this,if_true]
      omega
    · cases h
  · split at h
    · rename_i hs
      split at h
      · injection h with h;injection h with e1 e2
        have:signB c=true:=by unfold signB;simp[hs]
        have:runN signB (c::r)=runN signB r+1:=by simp only[runN,this,if_true]
        omega
      · cases h
    · split at h
      · split at h
        · injection h with h;injection h with e1 e2
          simp only[List.length_cons];omega
        · cases h
      · split at h
        · rename_i ht;injection h with h;injection h with e1 e2
          have:2≤(c::r).length:=by
           cases r with
           |nil=>simp[twoB]at ht
           |cons d r=>simp
          omega
        · split at h
          · injection h with h;injection h with e1 e2
            simp only[List.length_cons];omega
          · cases h
theorem z7x {x:UInt8} (h:z2m x=true):x=32∨x=9∨x=10:=by
 unfold z2m at h;simp only[Bool.or_eq_true,beq_iff_eq,or_assoc]at h;exact h
theorem zft {nm vl:List UInt8→Bool} {s:List UInt8} {k n:Nat} (h:nextN nm vl s=some (k,n)):nextN nm vl (s.take n)=some (k,n):=by
 cases s with
 |nil=>cases h
 |cons c r =>
  obtain⟨hp,hl,_,_⟩:=z4k h;obtain⟨m,rfl⟩:∃m,n=m+1:=⟨n - 1,by omega⟩
  simp only[nextN]at h;rw[List.take_succ_cons];simp only[nextN]
  split at h
  · rename_i hs;rw[if_pos hs]
    split at h
    · rename_i hn;injection h with h;injection h with e1 e2
      have e3:=z5n lowB (c::r);rw[e2,List.take_succ_cons]at e3;rw[e2,List.take_succ_cons]at hn;rw[e3,←e1];have:(c::r.take m).take (m+1)=c::r.take m:=by rw[List.take_succ_cons,List.take_take,Nat.min_self]
      rw[this,if_pos hn]
    · cases h
  · rename_i hs;rw[if_neg hs]
    split at h
    · rename_i hg;rw[if_pos hg]
      split at h
      · rename_i hn;injection h with h;injection h with e1 e2
        have e3:=z5n signB (c::r);rw[e2,List.take_succ_cons]at e3;rw[e3,if_pos (by omega),←e1]
      · cases h
    · rename_i hg;rw[if_neg hg]
      split at h
      · rename_i hv
        split at h
        · rename_i hn;injection h with h;injection h with e1 e2
          have em:runN signB r=m:=by omega
          have e3:=z5n signB r;rw[em]at e3;have hv':valB c (r.take m)=true:=by
           unfold valB at hv ⊢;simp only[Bool.or_eq_true,Bool.and_eq_true]at hv ⊢;rcases hv with hv|⟨h1,h2⟩
           · exact Or.inl hv
           · refine Or.inr ⟨h1,?_⟩
             cases r with
             |nil=>cases h2
             |cons d r =>
              have hd:signB d=true:=by
               have h2:z1i d=true:=h2;unfold signB lowB;simp[h2]
              have:runN signB (d::r)=runN signB r+1:=by simp only[runN,hd,if_true]
              obtain⟨m,rfl⟩:∃j,m=j+1:=⟨m - 1,by omega⟩
              exact h2
          have hn':vl (c::r.take m)=true:=by
           have:1+runN signB r=m+1:=by omega
           rw[this,List.take_succ_cons]at hn;exact hn
          have:(c::r.take m).take (1+m)=c::r.take m:=by rw[Nat.add_comm,List.take_succ_cons,List.take_take,Nat.min_self]
          rw[if_pos hv',e3,this,if_pos hn',←e1,Nat.add_comm]
        · cases h
      · rename_i hv
        split at h
        · rename_i ht;injection h with h;injection h with e1 e2
          obtain rfl:m=1:=by omega
          cases r with
          |nil=>simp[twoB]at ht
          |cons d r =>
           have hv':valB c [d]=false:=by
            have:valB c [d]=valB c (d::r):=rfl;rw[this];simpa using hv
           have ht':twoB [c,d]=true:=by unfold twoB at ht ⊢;exact ht
           simp only[List.take_succ_cons,List.take_zero,hv',ht',Bool.false_eq_true,if_false,if_true,←e1]
        · rename_i ht
          split at h
          · rename_i ho;injection h with h;injection h with e1 e2
            obtain rfl:m=0:=by omega
            have hv':valB c []=false:=by
             have hv2:valB c r=false:=by simpa using hv
             unfold valB at hv2 ⊢;simp only[Bool.or_eq_false_iff]at hv2 ⊢;exact⟨hv2.1,by simp[z5m]⟩
            have ht':twoB [c]=false:=by simp[twoB]
            simp only[List.take_zero,hv',ht',Bool.false_eq_true,if_false,ho,if_true,←e1]
          · cases h
def tokF (nm vl:List UInt8→Bool):Nat→Nat→List UInt8→Except Nat (List (Nat × Nat × Nat))
 |0,_,_=>.ok []
 |_+1,_,[]=>.ok []
 |d+1,at_,c::r =>
  if z2m c then tokF nm vl d (at_+1) r
  else match nextN nm vl (c::r)with
   |none=>.error at_
   |some (k,n)=>match tokF nm vl d (at_+n) ((c::r).drop n)with
    |.error i=>.error i
    |.ok l=>.ok ((k,at_,n)::l)
def tokN (nm vl:List UInt8→Bool) (at_:Nat) (s:List UInt8):Except Nat (List (Nat × Nat × Nat)):=tokF nm vl s.length at_ s
theorem z8i (nm vl:List UInt8→Bool):∀(d d' at_:Nat) (s:List UInt8),s.length≤d→s.length≤d'→tokF nm vl d at_ s=tokF nm vl d' at_ s
 |0,0,_,_,_,_=>rfl
 |0,d'+1,_,[],_,_=>rfl
 |d+1,0,_,[],_,_=>rfl
 |d+1,d'+1,_,[],_,_=>rfl
 |0,_,_,_::_,h,_=>by simp at h
 |_,0,_,_::_,_,h=>by simp at h
 |d+1,d'+1,at_,c::r,h,h'=>by
  simp only[List.length_cons]at h h';simp only[tokF]
  split
  · exact z8i nm vl d d' (at_+1) r (by omega) (by omega)
  · cases hn:nextN nm vl (c::r)with
    |none=>rfl
    |some x =>
     obtain⟨k,n⟩:=x;have hp:=z4k hn;simp only;rw[z8i nm vl d d' (at_+n) ((c::r).drop n) zA0o zA0o]
theorem z96 (nm vl:List UInt8→Bool) (at_:Nat):tokN nm vl at_ []=.ok []:=rfl
theorem z88 (nm vl:List UInt8→Bool) (at_:Nat) (c:UInt8) (r:List UInt8) (h:z2m c=true):tokN nm vl at_ (c::r)=tokN nm vl (at_+1) r:=by
 unfold tokN;rw[List.length_cons];simp only[tokF,h,if_true]
theorem z8l (nm vl:List UInt8→Bool) (at_:Nat) (c:UInt8) (r:List UInt8) (h:z2m c=false) (hn:nextN nm vl (c::r)=none):tokN nm vl at_ (c::r)=.error at_:=by
 unfold tokN;rw[List.length_cons];simp only[tokF,h,Bool.false_eq_true,if_false,hn]
theorem zab (nm vl:List UInt8→Bool) (at_:Nat) (c:UInt8) (r:List UInt8) (h:z2m c=false) (k n:Nat) (hn:nextN nm vl (c::r)=some (k,n)) :
 tokN nm vl at_ (c::r)=match tokN nm vl (at_+n) ((c::r).drop n)with
  |.error i=>.error i
  |.ok l=>.ok ((k,at_,n)::l):=by
 have hp:=z4k hn;unfold tokN;rw[List.length_cons];simp only[tokF,h,Bool.false_eq_true,if_false,hn];rw[z8i nm vl r.length ((c::r).drop n).length _ _ zA0o (Nat.le_refl _)]

theorem z9e (nm vl:List UInt8→Bool) (c:UInt8) (r:List UInt8) (h:z2m c=true):nextN nm vl (c::r)=none:=by
 have h2:twoB (c::r)=false:=by
  cases r with
  |nil=>simp[twoB]
  |cons d r =>
   unfold twoB;simp only[List.take_succ_cons,List.take_zero];rcases z7x h with rfl|rfl|rfl <;> simp
 have h3:valB c r=false:=by
  unfold valB;rcases z7x h with rfl|rfl|rfl <;> simp[z1i]
 have h1:z1p c=false∧z1d c=false∧oneB c=false:=by rcases z7x h with rfl|rfl|rfl <;> decide
 simp only[nextN,h1.1,h1.2.1,h1.2.2,h2,h3,Bool.false_eq_true,if_false]
def covT (nm vl:List UInt8→Bool) (full:List UInt8):Nat→List (Nat × Nat × Nat)→Prop
 |a,[]=>∀i (h:i<full.length),a≤i→z2m full[i]=true
 |a,x::l=>a≤x.2.1∧1≤x.2.2∧x.2.1+x.2.2≤full.length∧1≤x.1∧x.1≤4∧nextN nm vl (full.drop x.2.1)=some (x.1,x.2.2)∧(∀i (h:i<full.length),a≤i→i<x.2.1→z2m full[i]=true)∧covT nm vl full (x.2.1+x.2.2) l
theorem cov_back {nm vl:List UInt8→Bool} {full:List UInt8} {a:Nat} {l:List (Nat × Nat × Nat)} (ha:∀h:a<full.length,z2m full[a]=true) (h:covT nm vl full (a+1) l):covT nm vl full a l:=by
 cases l with
 |nil =>
  intro i hi hai
  by_cases e:a=i
  · subst e;exact ha hi
  · exact h i hi (by omega)
 |cons x l =>
  obtain⟨h1,h2,h3,h4,h5,h6,h7,h8⟩:=h;refine⟨by omega,h2,h3,h4,h5,h6,?_,h8⟩;intro i hi hai hix
  by_cases e:a=i
  · subst e;exact ha hi
  · exact h7 i hi (by omega) hix
theorem tok_cov (nm vl:List UInt8→Bool) (full:List UInt8):∀(d a:Nat) (l:List (Nat × Nat × Nat)),(full.drop a).length≤d→tokN nm vl a (full.drop a)=.ok l→covT nm vl full a l:=by
 intro d
 induction d with
 |zero =>
  intro a l h ht;have hn:full.drop a=[]:=List.length_eq_zero_iff.1 (by omega);rw[hn,z96]at ht;injection ht with ht
  subst ht;intro i hi hai;rw[List.length_drop]at h;omega
 |succ d ih =>
  intro a l h ht
  by_cases hl:a<full.length
  · have hd:full.drop a=full[a]::full.drop (a+1):=List.drop_eq_getElem_cons hl
    cases hb:z2m full[a]with
    |true =>
     rw[hd,z88 nm vl a _ _ hb]at ht;exact cov_back (fun _=>hb) (ih (a+1) l (by rw[List.length_drop]at h ⊢;omega) ht)
    |false =>
     cases hm:nextN nm vl (full[a]::full.drop (a+1))with
     |none=>rw[hd,z8l nm vl a _ _ hb hm]at ht;cases ht
     |some y =>
      obtain⟨k,n⟩:=y;have hp:=z4k hm;rw[hd,zab nm vl a _ _ hb k n hm,←hd,List.drop_drop]at ht
      cases hr:tokN nm vl (a+n) (full.drop (a+n))with
      |error i=>rw[hr]at ht;cases ht
      |ok m =>
       rw[hr]at ht;injection ht with ht
       subst ht;rw[←hd]at hp hm;rw[List.length_drop]at hp h;exact⟨Nat.le_refl _,hp.1,by show a+n≤full.length;omega,hp.2.2.1,hp.2.2.2,hm,fun i hi h1 h2=>absurd h2 (Nat.not_lt.2 h1),ih (a+n) m (by rw[List.length_drop];omega) hr⟩
  · have hn:full.drop a=[]:=List.drop_eq_nil_of_le (by omega);rw[hn,z96]at ht;injection ht with ht
    subst ht;intro i hi hai;omega
theorem zce (nm vl:List UInt8→Bool):∀(d:Nat) (s:List UInt8) (a:Nat) (l:List (Nat × Nat × Nat)),s.length≤d→tokN nm vl a s=.ok l→l.length≤s.length:=by
 intro d
 induction d with
 |zero =>
  intro s a l h ht;obtain rfl:s=[]:=List.length_eq_zero_iff.1 (by omega);rw[z96]at ht;injection ht with ht
  subst ht;exact Nat.le_refl _
 |succ d ih =>
  intro s a l h ht
  cases s with
  |nil=>rw[z96]at ht;injection ht with ht;subst ht;exact Nat.le_refl _
  |cons c r =>
   simp only[List.length_cons]at h ⊢
   cases hb:z2m c with
   |true =>
    rw[z88 nm vl a c r hb]at ht;have:=ih r (a+1) l (by omega) ht;omega
   |false =>
    cases hm:nextN nm vl (c::r)with
    |none=>rw[z8l nm vl a c r hb hm]at ht;cases ht
    |some y =>
     obtain⟨k,n⟩:=y;have hp:=z4k hm;rw[zab nm vl a c r hb k n hm]at ht
     cases hr:tokN nm vl (a+n) ((c::r).drop n)with
     |error j=>rw[hr]at ht;cases ht
     |ok m =>
      rw[hr]at ht;injection ht with ht
      subst ht;have:=ih _ _ _ zA0o hr;simp only[List.length_drop,List.length_cons]at this hp ⊢;omega
theorem za1 {c:UInt8} (h:z1d c=true):signB c=true:=by unfold signB;rw[h];simp
theorem zat {c:UInt8} (h:z1d c=true):lowB c=false:=by
 unfold z1d at h;simp only[decide_eq_true_eq]at h;have h1:z1p c=false:=decide_eq_false (by omega);have h2:z1i c=false:=decide_eq_false (by omega);have h3:(c==95)=false:=by
  rw[beq_eq_false_iff_ne];rintro rfl;have:(95:UInt8).toNat=95:=rfl;omega
 unfold lowB;rw[h1,h2,h3];rfl
theorem zf8 {nm vl:List UInt8→Bool} {c:UInt8} {r:List UInt8} {x:Nat × Nat} (h:nextN nm vl (c::r)=some x):z2m c=false:=by
 cases hb:z2m c with
 |false=>rfl
 |true=>rw[z9e nm vl c r hb]at h;cases h

def toksF (nm vl:List UInt8→Bool):Nat→List UInt8→Option (List (Int × ByteArray))
 |0,_=>some []
 |_+1,[]=>some []
 |d+1,c::r =>
  if z2m c then toksF nm vl d r
  else match nextN nm vl (c::r)with
   |none=>none
   |some (k,n)=>(toksF nm vl d ((c::r).drop n)).map fun l=>((k:Int),(⟨((c::r).take n).toArray⟩:ByteArray))::l
def toksO (nm vl:List UInt8→Bool) (s:List UInt8):Option (List (Int × ByteArray)):=toksF nm vl s.length s
theorem z7g (nm vl:List UInt8→Bool):∀(d d':Nat) (s:List UInt8),s.length≤d→s.length≤d'→toksF nm vl d s=toksF nm vl d' s
 |0,0,_,_,_=>rfl
 |0,d'+1,[],_,_=>rfl
 |d+1,0,[],_,_=>rfl
 |d+1,d'+1,[],_,_=>rfl
 |0,_,_::_,h,_=>by simp at h
 |_,0,_::_,_,h=>by simp at h
 |d+1,d'+1,c::r,h,h'=>by
  simp only[List.length_cons]at h h';simp only[toksF]
  split
  · exact z7g nm vl d d' r (by omega) (by omega)
  · cases hn:nextN nm vl (c::r)with
    |none=>rfl
    |some x =>
     obtain⟨k,n⟩:=x;have hp:=z4k hn;simp only;rw[z7g nm vl d d' ((c::r).drop n) zA0o zA0o]
def cutT (full:List UInt8) (x:Nat × Nat × Nat):Int × ByteArray:=((x.1:Int),⟨((full.drop x.2.1).take x.2.2).toArray⟩)
theorem zad (nm vl : List UInt8 → Bool) (full : List UInt8) : ∀ (d a : Nat), toksF nm vl d (full.drop a) = (match tokF nm vl d a (full.drop a)with
 |.error _=>none
 |.ok l=>some (l.map (cutT full)))
 |0,a=>by cases full.drop a <;> rfl
 |d+1,a=>by
  cases hs:full.drop a with
  |nil=>rfl
  |cons c r =>
   have hr:full.drop (a+1)=r:=by rw[←List.drop_drop,hs];rfl
   simp only[toksF,tokF]
   split
   · rw[←hr];exact zad nm vl full d (a+1)
   · cases hn:nextN nm vl (c::r)with
     |none=>rfl
     |some x =>
      obtain⟨k,n⟩:=x;simp only;have hd:(c::r).drop n=full.drop (a+n):=by rw[←hs,List.drop_drop]
      rw[hd,zad nm vl full d (a+n)]
      cases tokF nm vl d (a+n) (full.drop (a+n))with
      |error i=>rfl
      |ok l =>
       simp only[Option.map_some,List.map_cons];rw[cutT];simp only[hs]
theorem toksO_of (nm vl : List UInt8 → Bool) (s : List UInt8) : toksO nm vl s = (match tokN nm vl 0 s with
 |.error _=>none
 |.ok l=>some (l.map (cutT s))):=zad nm vl s s.length 0
theorem zdx (nm vl:List UInt8→Bool):toksO nm vl []=some []:=rfl
theorem z7m (nm vl:List UInt8→Bool) {c:UInt8} (r:List UInt8) (h:z2m c=true):toksO nm vl (c::r)=toksO nm vl r:=by
 unfold toksO;rw[List.length_cons];simp only[toksF,h,if_true]
theorem z9l {nm vl:List UInt8→Bool} {c:UInt8} {r:List UInt8} (h:z2m c=false) (hn:nextN nm vl (c::r)=none):toksO nm vl (c::r)=none:=by
 unfold toksO;rw[List.length_cons];simp only[toksF,h,Bool.false_eq_true,if_false,hn]
theorem z8u {nm vl:List UInt8→Bool} {c:UInt8} {r:List UInt8} (h:z2m c=false) {k n:Nat} (hn:nextN nm vl (c::r)=some (k,n)) :
 toksO nm vl (c::r)=(toksO nm vl ((c::r).drop n)).map fun l=>((k:Int),(⟨((c::r).take n).toArray⟩:ByteArray))::l:=by
 have hp:=z4k hn;unfold toksO;rw[List.length_cons];simp only[toksF,h,Bool.false_eq_true,if_false,hn];rw[z7g nm vl r.length ((c::r).drop n).length _ zA0o (Nat.le_refl _)]
def sepB (x:UInt8):Bool:=!signB x&&(x !=61&&x !=45)
theorem sep_is {x:UInt8} (h:sepB x=true):lowB x=false∧signB x=false∧z1i x=false∧x≠61∧x≠45:=by
 unfold sepB at h;simp only[Bool.and_eq_true,Bool.not_eq_true',bne_iff_ne,ne_eq]at h;obtain⟨h1,h2,h3⟩:=h;have h4:lowB x=false:=by
  unfold signB at h1;rw[Bool.or_eq_false_iff]at h1;exact h1.1
 refine⟨h4,h1,?_,h2,h3⟩;unfold lowB at h4;simp only[Bool.or_eq_false_iff]at h4;exact h4.1.2
theorem next_sep (nm vl:List UInt8→Bool) (x:UInt8) (hx:sepB x=true) (b s:List UInt8) (hs:s≠[]):nextN nm vl (s++x::b)=nextN nm vl s:=by
 obtain⟨h1,h2,h3,h61,h45⟩:=sep_is hx
 cases s with
 |nil=>exact absurd rfl hs
 |cons c r =>
  have e1:runN lowB (c::r++x::b)=runN lowB (c::r):=z6y _ x b h1 (c::r);have e2:runN signB (c::r++x::b)=runN signB (c::r):=z6y _ x b h2 (c::r);have e3:runN signB (r++x::b)=runN signB r:=z6y _ x b h2 r;have e4:z5m (r++x::b)=z5m r:=by
   cases r with
   |nil=>exact h3
   |cons d r=>rfl
  have e5:valB c (r++x::b)=valB c r:=by unfold valB;rw[e4]
  have e6:twoB (c::r++x::b)=twoB (c::r):=by
   cases r with
   |nil =>
    unfold twoB;simp only[List.cons_append,List.nil_append,List.take_succ_cons,List.take_zero,List.take_nil]
    simp[h61,h45]
   |cons d r=>rfl
  have t1:(c::r++x::b).take (runN lowB (c::r))=(c::r).take (runN lowB (c::r)):=List.take_append_of_le_length (z3c _ _);have t2:(c::r++x::b).take (1+runN signB r)=(c::r).take (1+runN signB r):=List.take_append_of_le_length (by have:=z3c signB r;simp;omega);simp only[List.cons_append]at e1 e2 e6 t1 t2 ⊢;simp only[nextN,e1,e2,e3,e5,e6,t1,t2]
theorem zb0 (nm vl:List UInt8→Bool) {x:UInt8} (hx:sepB x=true) (b:List UInt8):∀(d:Nat) (s:List UInt8),s.length≤d →
 toksO nm vl (s++x::b)=(toksO nm vl s).bind fun l=>(toksO nm vl (x::b)).map fun m=>l++m
 |d,[],h=>by
  rw[List.nil_append,zdx,Option.bind_some]
  cases toksO nm vl (x::b) <;> rfl
 |0,c::r,h=>by simp at h
 |d+1,c::r,h=>by
  simp only[List.length_cons]at h
  cases hb:z2m c with
  |true=>rw[List.cons_append,z7m nm vl _ hb,z7m nm vl r hb,zb0 nm vl hx b d r (by omega)]
  |false =>
   have hn:=next_sep nm vl x hx b (c::r) (by simp)
   cases hm:nextN nm vl (c::r)with
   |none =>
    rw[z9l hb hm];rw[List.cons_append]at hn ⊢;rw[z9l hb (hn.trans hm)];rfl
   |some y =>
    obtain⟨k,n⟩:=y;have hp:=z4k hm;rw[z8u hb hm];rw[List.cons_append]at hn ⊢;rw[z8u hb (hn.trans hm)];have e:(c::(r++x::b)).drop n=(c::r).drop n++x::b:=by
     rw[←List.cons_append,List.drop_append_of_le_length hp.2.1]
    have e2:(c::(r++x::b)).take n=(c::r).take n:=by
     rw[←List.cons_append,List.take_append_of_le_length hp.2.1]
    rw[e,e2,zb0 nm vl hx b d ((c::r).drop n) zA0o]
    cases toksO nm vl ((c::r).drop n)with
    |none=>rfl
    |some l=>cases toksO nm vl (x::b) <;> rfl
theorem toks_app {nm vl:List UInt8→Bool} {x:UInt8} (hx:sepB x=true) {s b:List UInt8} {l m:List (Int × ByteArray)} (hs:toksO nm vl s=some l) (hb:toksO nm vl (x::b)=some m):toksO nm vl (s++x::b)=some (l++m):=by
 rw[zb0 nm vl hx b _ s (Nat.le_refl _),hs,hb];rfl
abbrev mkT (m:UInt8):Int × ByteArray:=(4,⟨#[m]⟩)
theorem toks_one {nm vl:List UInt8→Bool} {s:List UInt8} {k:Nat} (h:nextN nm vl s=some (k,s.length)):toksO nm vl s=some [((k:Int),⟨s.toArray⟩)]:=by
 cases s with
 |nil=>cases h
 |cons c r =>
  rw[z8u (zf8 h) h,List.drop_length,zdx,List.take_length];rfl
end Go.Proofs.YthebhbomlllpeaaGreatDoor.X
namespace Go.Proofs.YthebhbomlllpeaaGreatDoor.X
open Go.RowKit Go.Proofs.YthebhbomlllpeaaGreatDoorW.PrintWords Go.Proofs.YthebhbomlllpeaaGreatDoorW.PrintLast Go.Proofs.YthebhbomlllpeaaGreatDoorW.PrintMore
def hexc (d:Nat):UInt8:=if d<10 then UInt8.ofNat (48+d)else UInt8.ofNat (87+d)
def hexL (u:Nat):List UInt8:=if h:u<16 then[hexc u]else hexL (u / 16)++[hexc (u % 16)]
termination_by u
decreasing_by omega
set_option maxHeartbeats 400000 in
set_option maxRecDepth 100000 in
theorem tz16 (w:World) (hLW:LaidW w) :
 Calls Tryz.prog 186 #[.int .u64 16] w fun e w'=>e=.returned (.int .i64 4)∧w'=w:=by
 have hc:w.cell? ⟨5,15,none⟩=some (.int .u8 4):=Lib.TabIs.cell hLW.t64 zda 15 (by decide);have hk:IntKind.u64.wrap (bits BinOp.and IntKind.u64 16 (IntKind.u64.wrap (-16)) * 285870213051353865) / 288230376151711744=15:=by decide +kernel
 go_enter Tryz.func186,Tryz.ntmps186;go_wp2
 go_ret
 exact⟨rfl,rfl⟩
def zbb (u v d:Nat) (ds:List UInt8):Prop:=v<16 ^ d∧ds.length=16 - d∧hexL u=hexL v++ds
def zdo (cs:Array Value) (i:Nat) (ds:List UInt8):Prop:=cs.size=65∧(∀j,j<65→∃x:Int,cs[j]?=some (.int .u8 x))∧∀j (h:j<ds.length),cs[i+j]?=some (.int .u8 (ds[j].toNat:Int))
theorem zfy {u v d:Nat} {ds:List UInt8} (h:zbb u v d ds) (hd:d≤16):v<18446744073709551616 :=
 Nat.lt_of_lt_of_le h.1 (Nat.le_trans (Nat.pow_le_pow_right (by omega) hd) (by decide))
theorem and15 (v:Nat) (h:v<18446744073709551616):bits BinOp.and IntKind.u64 (v:Int) 15=((v % 16:Nat):Int):=by
 have:=u64_and_nat v 15 h (by decide);rw[show((15:Nat):Int)=15 from rfl]at this;rw[this,show v &&& 15=v % 16 from Nat.and_two_pow_sub_one_eq_mod v 4]
def z6a:ByteArray:=⟨#[48,49,50,51,52,53,54,55,56,57,97,98,99,100,101,102,103,104,105,106,107,108,109,110,111,112,113,114,115,116,117,118,119,120,121,122]⟩
theorem z86:∀n:Nat,n<16→∀h:n<z6a.size,z6a[n]'h=hexc n:=by decide
theorem hex_next {u v d:Nat} {ds:List UInt8} (h:zbb u v (d+1) ds) (hd:d+1≤16) (hv:16≤v):1≤d∧zbb u (v / 16) d (hexc (v % 16)::ds):=by
 obtain⟨h1,h2,h3⟩:=h;have hd1:1≤d:=by
  rcases Nat.eq_zero_or_pos d with rfl|h
  · simp at h1;omega
  · exact h
 refine⟨hd1,?_,by simp[h2];omega,?_⟩
 · rw[Nat.pow_succ]at h1;omega
 · rw[h3,hexL,dif_neg (by omega)]
   simp
theorem hex_last {u v d:Nat} {ds:List UInt8} (h:zbb u v d ds) (hv:¬16≤v):hexL u=hexc v::ds:=by
 rw[h.2.2,hexL,dif_pos (by omega)];rfl
theorem zea {cs:Array Value} {i:Nat} {ds:List UInt8} (h:zdo cs (i+1) ds) (hi:i<65) (c:UInt8):zdo (cs.setIfInBounds i (.int .u8 (c.toNat:Int))) i (c::ds):=by
 obtain⟨h1,h2,h3⟩:=h;refine⟨by simpa using h1,?_,?_⟩
 · intro j hj
   by_cases e:i=j
   · subst e;exact⟨_,by rw[Array.getElem?_setIfInBounds_self_of_lt (by omega)]⟩
   · rw[Array.getElem?_setIfInBounds_ne e];exact h2 j hj
 · intro j hj
   cases j with
   |zero=>rw[Nat.add_zero,Array.getElem?_setIfInBounds_self_of_lt (by omega)];rfl
   |succ j =>
    rw[Array.getElem?_setIfInBounds_ne (by omega)];have:=h3 j (by simpa using hj);rw[show i+(j+1)=i+1+j by omega,this];rfl
theorem row_zero (cs:Array Value) (h:cs=Array.replicate 65 (.int .u8 0)):zdo cs 65 []:=by
 subst h;refine⟨by simp,fun j hj=>⟨0,by simp[hj]⟩,fun j hj=>by simp at hj⟩
set_option maxHeartbeats 400000 in
set_option maxRecDepth 100000 in
theorem pow2_16 (w:World) :
 Calls Tryz.prog 185 #[.int .i64 16] w fun e w'=>e=.returned (.bool true)∧w'=w:=by
 have hk:bits BinOp.and IntKind.i64 16 15=0:=by decide +kernel
 go_enter Tryz.func185,Tryz.ntmps185;go_wp2
 go_ret
 exact⟨rfl,rfl⟩
set_option maxHeartbeats 800000 in
set_option maxRecDepth 100000 in
theorem zbe (u:Nat) (hu:u<18446744073709551616) (w:World) (hLW:LaidW w) :
 Calls Tryz.prog 173 #[.slice none 0 0,.int .u64 u,.int .i64 16,.bool false,.bool false] w fun e w'=>e=.returned (.tuple #[.slice none 0 0,.string ⟨(hexL u).toArray⟩])∧Below w.heap.size w w':=by
 have hu16:u<16 ^ 16:=hu;go_enter Tryz.func173,Tryz.ntmps173
 go_wp2_with (first|(go_at_call 185;refine(pow2_16 _).mono ?_;rintro e w' ⟨rfl,rfl⟩)|(go_at_call 186;refine(tz16 _ (by first|exact hLW.alloc _|exact hLW)).mono ?_;rintro e w' ⟨rfl,rfl⟩))
 go_loopw [1,13] (fun v1 v13 wr=>∃(v d:Nat) (ds:List UInt8) (cs:Array Value),v1=.int .u64 v∧v13=.int .i64 (49+(d:Int))∧1≤d∧d≤16∧z00 (zbb u v d ds)∧z00 (wr.heap[w.heap.size]?=some (.cells cs 203 (0,0)))∧z00 (zdo cs (49+d) ds)∧z00 (Below w.heap.size w wr)) (fun v1 _ _=>(intOf v1).toNat)
 case atStart=>exact⟨u,16,[],Tryz.zeroCells203,rfl,rfl,by omega,by omega,⟨hu16,rfl,by simp⟩,⟨heap_alloc_new w _⟩,⟨row_zero _ rfl⟩,⟨(Below.refl _ _).alloc (Nat.le_refl _) _⟩⟩
 case round =>
  obtain⟨v,d,ds,cs,rfl,rfl,hd1,hd2,HI,HB,HR,HW⟩:=hrel;have hv:v<18446744073709551616:=zfy HI.out hd2;obtain⟨d,rfl⟩:∃d',d=d'+1:=⟨d - 1,by omega⟩
  obtain⟨x0,hx0⟩:=HR.out.2.1 (49+d) (by omega);have hcell:wr.cell? ⟨w.heap.size,49+d,none⟩=some (.int .u8 x0):=(z01 HB.out _).trans hx0;have hfr:wr.frozen? ⟨w.heap.size,49+d,none⟩=false:=z03 HB.out _;clear hx0
  by_cases hge:16≤v
  · have ht:decide ((16:Int)≤(v:Int))=true:=decide_eq_true (by omega);have hbit:=and15 v hv;have hm:v % 16<36:=by omega
    go_wp2;obtain⟨hd',HI'⟩:=hex_next HI.out hd2 hge
    go_roundw
    case rel =>
     have e1:=z86 (v % 16) (by omega) (by show v % 16<36;omega);refine⟨v / 16,d,hexc (v % 16)::ds,cs.setIfInBounds (49+d) (.int .u8 ((hexc (v % 16)).toNat:Int)),?_,?_,hd',by omega,⟨HI'⟩,⟨?_⟩,⟨zea (i:=49+d) HR.out (by omega) _⟩,⟨?_⟩⟩
     · first|rfl|go_num
     · go_num
     · have:=z87 HB.out (49+d) (.int .u8 ((hexc (v % 16)).toNat:Int));rw[←e1]at this ⊢;exact this
     · exact z08 HW.out (Nat.le_refl _)
    case measure=>simp[intOf];omega
  · have ht:decide ((16:Int)≤(v:Int))=false:=decide_eq_false (by omega);have hm:v<36:=by omega
    have hm2:v<z6a.size:=hm;have e1:z6a[v]'hm2=hexc v:=z86 v (by omega) hm2;have hlen:(hexc v::ds).length=16 - d:=by have:=HI.out.2.1;simp[this];omega
    have hal:Tryz.prog.arrayLen 203=65:=by kernel_rfl
    have hal1:Tryz.prog.arrayLen 203 - (49+d)=16 - d:=by rw[hal];omega
    have hsl:∀W,(Instr.sliceAt 203 (.pointer (some ⟨w.heap.size,0,none⟩)) (some (.int .i64 (49+((d:Int)+1) - 1))) none none).run Tryz.prog W=.ok (.slice (some ⟨w.heap.size,49+d,none⟩) (16 - d) (16 - d)) W:=fun W=>by
     rw[run_sliceAt_array_l W 203 ⟨w.heap.size,0,none⟩ (by simp[Program.arrayLen,Program.elem,Tryz.underlying203]) .i64 (49+((d:Int)+1) - 1) (by omega) (by rw[hal];omega)];rw[hal]
     go_simp
     have e2:(49+((d:Int)+1)).toNat - 1=49+d:=by omega
     rw[e2,if_neg (by omega)];exact⟨rfl,by omega⟩
    have hrow:=zea (i:=49+d) HR.out (by omega) (hexc v);have hblk:=z87 HB.out (49+d) (.int .u8 ((hexc v).toNat:Int));have hcv:(convert 145 9 (.slice (some ⟨w.heap.size,49+d,none⟩) (16 - d) (16 - d))).run Tryz.prog (wr.setCell ⟨w.heap.size,49+d,none⟩ (.int .u8 (((⟨#[48,49,50,51,52,53,54,55,56,57,97,98,99,100,101,102,103,104,105,106,107,108,109,110,111,112,113,114,115,116,117,118,119,120,121,122]⟩:ByteArray)[v]'hm2).toNat:Int)))=.ok (.string ⟨(hexL u).toArray⟩) (wr.setCell ⟨w.heap.size,49+d,none⟩ (.int .u8 (((⟨#[48,49,50,51,52,53,54,55,56,57,97,98,99,100,101,102,103,104,105,106,107,108,109,110,111,112,113,114,115,116,117,118,119,120,121,122]⟩:ByteArray)[v]'hm2).toNat:Int))):=by
     show(convert 145 9 (.slice (some ⟨w.heap.size,49+d,none⟩) (16 - d) (16 - d))).run Tryz.prog (wr.setCell ⟨w.heap.size,49+d,none⟩ (.int .u8 ((z6a[v]'hm2).toNat:Int)))=.ok (.string ⟨(hexL u).toArray⟩) (wr.setCell ⟨w.heap.size,49+d,none⟩ (.int .u8 ((z6a[v]'hm2).toNat:Int)));rw[e1];have h := run_convert_bytes_back (P := Tryz.prog) (wr.setCell ⟨w.heap.size, 49 + d, none⟩ (.int .u8 ((hexc v).toNat : Int))) 145 9 5 ⟨w.heap.size, 49 + d, none⟩ (16 - d) (hexc v :: ds) Tryz.underlying145 Tryz.underlying5 Tryz.underlying9 (fun j hj=>by
      rw[Lib.add_plain];exact(z01 hblk _).trans (hrow.2.2 j hj))
     rw[hlen]at h;rw[hex_last HI.out hge];exact h
    have HC:=z00.mk hcv;have HROW:=z00.mk hrow;clear hrow hblk hlen hal hal1 e1 hcv;go_wp2
    first|rw[HC.out]|erw [HC.out]
    go_wp2
    go_ret2
    exact⟨rfl,z08 HW.out (Nat.le_refl _)⟩
set_option maxHeartbeats 400000 in
set_option maxRecDepth 100000 in
theorem z7t (u:Nat) (hu:u<18446744073709551616) (w:World) (hLW:LaidW w) :
 Calls Tryz.prog 160 #[.int .u64 u,.int .i64 16] w fun e w'=>e=.returned (.string ⟨(hexL u).toArray⟩)∧Below w.heap.size w w':=by
 go_enter Tryz.func160,Tryz.ntmps160
 go_wp2_with (go_at_call 173;refine(zbe u hu _ hLW).mono ?_;rintro e w' ⟨rfl,hb⟩)
 go_ret
 exact⟨rfl,hb⟩
def z34.f (a0:Int) (a1:Int):Option ByteArray:=if a1=16∧0≤a0∧a0<18446744073709551616 then some ⟨(hexL a0.toNat).toArray⟩else none
set_option maxHeartbeats 400000 in
set_option maxRecDepth 100000 in
theorem z34.calls (a0 a1:Int) (r:ByteArray) (w:World) (hLW:LaidW w) (h:z34.f a0 a1=some r) :
 Calls Tryz.prog 140 #[.int .u64 a0,.int .i64 a1] w fun e w'=>e=.returned (.string r)∧Below w.heap.size w w':=by
 unfold z34.f at h
 split at h
 · rename_i hc;obtain⟨rfl,h0,h1⟩:=hc;obtain rfl:=Option.some.inj h;obtain⟨u,rfl⟩:=Int.eq_ofNat_of_zero_le h0;have hu:u<18446744073709551616:=by omega
   rw[Int.toNat_natCast];clear h h0 h1;go_enter Tryz.func140,Tryz.ntmps140
   go_wp2_with (go_at_call 160;refine(z7t u hu _ hLW).mono ?_;rintro e w' ⟨rfl,hb⟩)
   go_ret
   exact⟨rfl,hb⟩
 · cases h
end Go.Proofs.YthebhbomlllpeaaGreatDoor.X
