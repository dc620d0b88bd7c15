/- A part of the proof of WholeView. -/
import Derived.Test.YtidbfmbocikkgaaGreatChecked
import Derived.Test.YtidbfmbocikkgaaGreatFunWholeView
import Derived.Shelf.Strings.Builder1
open Go.Extern.AbiNoEscape renaming same→xt
open Go.Fence renaming wide→rj
open Go.Oper renaming upon_value→rt
open Go.Result renaming andThen→px
open Go.Shelf renaming Ren→ni
open Go.TypeDesc renaming int→yf,pointer→pf,struct→wc
open Option renaming map_eq_some_iff→bf
namespace Go.Pal
open Go Go.Proofs Go.RowKit Go.Maps Go.Sort Go.Shelf
set_option maxRecDepth 100000
set_option linter.unusedVariables false
set_option linter.unusedSimpArgs false
set_option linter.unnecessarySimpa false
def mpLaysRen:ni:=⟨λn=>match n with|5=>99|7=>142|n=>n, λn=>match n with|4=>4|20=>20|23=>128|25=>3|3=>138|n=>n, λn=>n⟩
theorem mpLays : SlLaysW.n5 Tryz.prog mpLaysRen where
  mixed:=by kernel_rfl
  f5:=⟨Tryz.f99.name, by kernel_rfl, by kernel_rfl⟩
  f7:=by kernel_rfl
  t4:=by kernel_rfl
  a4:=λ_=>by kernel_rfl
  z4:=λ_=>by kernel_rfl
  v4:=λ_=>by kernel_rfl
  t20:=by kernel_rfl
  a20:=λ_=>by kernel_rfl
  z20:=λ_=>by kernel_rfl
  v20:=λ_=>by kernel_rfl
  t23:=by kernel_rfl
  a23:=λ_=>by kernel_rfl
  z23:=λ_=>by kernel_rfl
  v23:=λ_=>by kernel_rfl
def kyLaysRen:ni:=⟨λn=>match n with|7=>144|10=>210|n=>n, λn=>match n with|23=>128|26=>3|3=>138|28=>207|0=>0|27=>206|33=>132|4=>4|n=>n, λn=>n⟩
theorem kyLays : SlLaysZI.n7 Tryz.prog kyLaysRen where
  mixed:=by kernel_rfl
  f7:=⟨Tryz.f144.name, by kernel_rfl, by kernel_rfl⟩
  f10:=⟨Tryz.f210.name, by kernel_rfl, by kernel_rfl⟩
  t0:=by kernel_rfl
  a0:=λ_=>by kernel_rfl
  z0:=λ_=>by kernel_rfl
  v0:=λ_=>by kernel_rfl
  t4:=by kernel_rfl
  a4:=λ_=>by kernel_rfl
  z4:=λ_=>by kernel_rfl
  v4:=λ_=>by kernel_rfl
  t23:=by kernel_rfl
  a23:=λ_=>by kernel_rfl
  z23:=λ_=>by kernel_rfl
  v23:=λ_=>by kernel_rfl
  t26:=by kernel_rfl
  a26:=λ_=>by kernel_rfl
  z26:=λ_=>by kernel_rfl
  v26:=λ_=>by kernel_rfl
  t27:=by kernel_rfl
  a27:=λ_=>by kernel_rfl
  z27:=λ_=>by kernel_rfl
  v27:=λ_=>by kernel_rfl
  t28:=by kernel_rfl
  a28:=λ_=>by kernel_rfl
  z28:=λ_=>by kernel_rfl
  v28:=λ_=>by kernel_rfl
  t33:=by kernel_rfl
  a33:=λ_=>by kernel_rfl
  z33:=λ_=>by kernel_rfl
  v33:=λ_=>by kernel_rfl
def soARen:ni:=⟨λn=>match n with|6=>143|8=>208|9=>209|11=>246|13=>248|12=>247|23=>270|24=>271|14=>262|15=>263|16=>264|17=>265|18=>266|19=>267|20=>229|21=>268|22=>269|25=>278|26=>279|27=>280|28=>281|29=>282|30=>255|31=>286|n=>n, λn=>match n with|26=>3|28=>207|24=>41|0=>0|3=>3|37=>89|48=>315|50=>88|4=>4|40=>309|39=>308|45=>236|5=>5|9=>9|51=>322|55=>326|57=>330|58=>66|33=>132|n=>n, λn=>n⟩
theorem soA : SlLaysZI.n6 Tryz.prog soARen where
  mixed:=by kernel_rfl
  f6:=⟨Tryz.f143.name, by kernel_rfl, by kernel_rfl⟩
  f8:=⟨Tryz.f208.name, by kernel_rfl, by kernel_rfl⟩
  f11:=⟨Tryz.f246.name, by kernel_rfl, by kernel_rfl⟩
  t0:=by kernel_rfl
  a0:=λ_=>by kernel_rfl
  z0:=λ_=>by kernel_rfl
  v0:=λ_=>by kernel_rfl
  t24:=by kernel_rfl
  a24:=λ_=>by kernel_rfl
  z24:=λ_=>by kernel_rfl
  v24:=λ_=>by kernel_rfl
  t26:=by kernel_rfl
  a26:=λ_=>by kernel_rfl
  z26:=λ_=>by kernel_rfl
  v26:=λ_=>by kernel_rfl
  t28:=by kernel_rfl
  a28:=λ_=>by kernel_rfl
  z28:=λ_=>by kernel_rfl
  v28:=λ_=>by kernel_rfl
  i26:=by kernel_rfl
def soBRen:ni:=⟨λn=>match n with|5=>209|8=>248|7=>247|19=>270|20=>271|10=>262|11=>263|12=>264|13=>265|14=>266|15=>267|16=>229|17=>268|18=>269|30=>278|31=>279|32=>280|33=>281|34=>282|35=>255|40=>286|n=>n, λn=>match n with|23=>41|25=>3|3=>3|32=>89|22=>41|0=>0|44=>315|46=>88|4=>4|36=>309|35=>308|41=>236|5=>5|9=>9|53=>322|57=>326|63=>330|64=>66|n=>n, λn=>n⟩
theorem soB : SlLaysM.n5 Tryz.prog soBRen where
  mixed:=by kernel_rfl
  f5:=⟨Tryz.f209.name, by kernel_rfl, by kernel_rfl⟩
  f7:=⟨Tryz.f247.name, by kernel_rfl, by kernel_rfl⟩
  f8:=by kernel_rfl
  f10:=⟨Tryz.f262.name, by kernel_rfl, by kernel_rfl⟩
  f11:=⟨Tryz.f263.name, by kernel_rfl, by kernel_rfl⟩
  f12:=⟨Tryz.f264.name, by kernel_rfl, by kernel_rfl⟩
  f13:=⟨Tryz.f265.name, by kernel_rfl, by kernel_rfl⟩
  f14:=⟨Tryz.f266.name, by kernel_rfl, by kernel_rfl⟩
  f15:=⟨Tryz.f267.name, by kernel_rfl, by kernel_rfl⟩
  f16:=⟨Tryz.f229.name, by kernel_rfl, by kernel_rfl⟩
  f17:=⟨Tryz.f268.name, by kernel_rfl, by kernel_rfl⟩
  f18:=⟨Tryz.f269.name, by kernel_rfl, by kernel_rfl⟩
  f19:=by kernel_rfl
  f20:=by kernel_rfl
  f30:=⟨Tryz.f278.name, by kernel_rfl, by kernel_rfl⟩
  f31:=by kernel_rfl
  f32:=by kernel_rfl
  f33:=⟨Tryz.f281.name, by kernel_rfl, by kernel_rfl⟩
  f34:=⟨Tryz.f282.name, by kernel_rfl, by kernel_rfl⟩
  f35:=⟨Tryz.f255.name, by kernel_rfl, by kernel_rfl⟩
  f40:=⟨Tryz.f286.name, by kernel_rfl, by kernel_rfl⟩
  t0:=by kernel_rfl
  a0:=λ_=>by kernel_rfl
  z0:=λ_=>by kernel_rfl
  v0:=λ_=>by kernel_rfl
  t3:=by kernel_rfl
  a3:=λ_=>by kernel_rfl
  z3:=λ_=>by kernel_rfl
  v3:=λ_=>by kernel_rfl
  t4:=by kernel_rfl
  a4:=λ_=>by kernel_rfl
  z4:=λ_=>by kernel_rfl
  v4:=λ_=>by kernel_rfl
  t5:=by kernel_rfl
  a5:=λ_=>by kernel_rfl
  z5:=λ_=>by kernel_rfl
  v5:=λ_=>by kernel_rfl
  t9:=by kernel_rfl
  a9:=λ_=>by kernel_rfl
  z9:=λ_=>by kernel_rfl
  v9:=λ_=>by kernel_rfl
  t22:=by kernel_rfl
  a22:=λ_=>by kernel_rfl
  z22:=λ_=>by kernel_rfl
  v22:=λ_=>by kernel_rfl
  t23:=by kernel_rfl
  a23:=λ_=>by kernel_rfl
  z23:=λ_=>by kernel_rfl
  v23:=λ_=>by kernel_rfl
  t25:=by kernel_rfl
  a25:=λ_=>by kernel_rfl
  z25:=λ_=>by kernel_rfl
  v25:=λ_=>by kernel_rfl
  t32:=by kernel_rfl
  a32:=λ_=>by kernel_rfl
  z32:=λ_=>by kernel_rfl
  v32:=λ_=>by kernel_rfl
  t35:=by kernel_rfl
  a35:=λ_=>by kernel_rfl
  z35:=λ_=>by kernel_rfl
  v35:=λ_=>by kernel_rfl
  t36:=by kernel_rfl
  a36:=λ_=>by kernel_rfl
  z36:=λ_=>by kernel_rfl
  v36:=λ_=>by kernel_rfl
  t41:=by kernel_rfl
  a41:=λ_=>by kernel_rfl
  z41:=λ_=>by kernel_rfl
  v41:=λ_=>by kernel_rfl
  t44:=by kernel_rfl
  a44:=λ_=>by kernel_rfl
  z44:=λ_=>by kernel_rfl
  v44:=λ_=>by kernel_rfl
  t46:=by kernel_rfl
  a46:=λ_=>by kernel_rfl
  z46:=λ_=>by kernel_rfl
  v46:=λ_=>by kernel_rfl
  t53:=by kernel_rfl
  a53:=λ_=>by kernel_rfl
  z53:=λ_=>by kernel_rfl
  v53:=λ_=>by kernel_rfl
  t57:=by kernel_rfl
  a57:=λ_=>by kernel_rfl
  z57:=λ_=>by kernel_rfl
  v57:=λ_=>by kernel_rfl
  t63:=by kernel_rfl
  a63:=λ_=>by kernel_rfl
  z63:=λ_=>by kernel_rfl
  v63:=λ_=>by kernel_rfl
  t64:=by kernel_rfl
  a64:=λ_=>by kernel_rfl
  z64:=λ_=>by kernel_rfl
  v64:=λ_=>by kernel_rfl
theorem soSorts (m : Nat) : AnyZI.SortsIn Tryz.prog soARen rj m :=
  ⟨λblk off cap ss W hH hblk hsz=>callsIn_wide.2 (AnyM.slices_Sort_int soB blk off cap ss W hH hblk hsz),
   λp cap W=>callsIn_wide.2 (AnyM.slices_Sort_int_none soB p cap W)⟩
theorem soLays (m b : Nat) (l : List Int) (w : World) (D0 : DataW Unit) (hcell : w.cell? ⟨m, 0, none⟩ = some (.map (some b))) (hm : m < w.heap.size) (hown : w.ownsMap Tryz.prog 3 (fun _ => some (.nil, [])) b l.length D0) (hsz : Maps.size D0 = l.length) (hmax : l.length ≤ maxLen) (hby : l.length * 8 ≤ 140737488355328) :
    Calls Tryz.prog 143 #[.func (.func 210) #[] #[.pointer (some ⟨m, 0, none⟩)]] w fun e w' => ∃ (v : Value) (ss : List Int), e = .returned v ∧ ss.Perm (intKeys D0) ∧
      w'.ownsRow w.heap.size 3 1 v ss.length ((ss.mergeSort (λx y=>decide (x<=y))).map encZ)/\(v=.slice none 0 0↔ss=[])/\Below w.heap.size w w':=by
  have hseq : SeqGives rj 2 Tryz.prog 210 #[.pointer (some ⟨m, 0, none⟩)] encZ (fun ss => ss.Perm (intKeys D0)) (Maps.size D0) w :=
    AnyZI.keys_gives (ρ:=kyLaysRen) { kyLays with } rj _ trivial rfl (by omega) m b l.length D0 w hm hcell hown
  have cS:=AnyZI.sorted_in soA rj 5 trivial trivial trivial trivial rfl (by omega) (soSorts _) (enters_of Tryz.func209 (by kernel_rfl) rfl) 210 #[.pointer (some ⟨m, 0, none⟩)] trivial (enters_of Tryz.func210 (by kernel_rfl) rfl) _ _ (by omega) (by omega) w hseq;exact(callsIn_wide (n:=5)).1 cS
theorem sbT : Tryz.prog.underlying 167 = some (wc #[{ name := "addr", type := 165, offset := 0, embedded := false, tag := "", pkgPath := "strings", byteOffset := 0 }, { name := "buf", type := 38, offset := 1, embedded := false, tag := "", pkgPath := "strings", byteOffset := 8 }]) := by kernel_rfl
set_option maxHeartbeats 1000000 in
set_option maxRecDepth 100000 in
theorem ccUsed (b : Nat) (w : World) (h0 : w.cell? ⟨b, 0, none⟩ = some (.pointer (some ⟨b, 0, none⟩))) :
    Calls Tryz.prog 175 #[.pointer (some ⟨b, 0, none⟩)] w λe w'=>e=.returned (.tuple #[])/\w'=w:=by
  have hsz:(Tryz.prog.info? 167).map (·.size)=some 2:=by kernel_rfl
  obtain⟨j, hj, _⟩:=bf.1 hsz;have mixed:Tryz.prog.follows .mixedOrders=true:=by kernel_rfl
  have t72:=sbT;have t70:Tryz.prog.underlying 165=some (pf 167):=by kernel_rfl
  have a70:∀w, (isAgg 165).run Tryz.prog w=.ok false w:=λ_=>by kernel_rfl
  have u72:=run_underlying t72;have u70:=run_underlying t70;go_enter Tryz.func175, Tryz.ntmps175;go_wp2;rw[Lib.run_neq_ptr_same w _ t70 hj];go_wp2;go_end0;exact⟨rfl, rfl⟩
set_option maxHeartbeats 1000000 in
set_option maxRecDepth 100000 in
theorem ccFresh (b : Nat) (w : World) (h0 : w.cell? ⟨b, 0, none⟩ = some (.pointer none)) (hsh : w.shape? b = some (167, 2)) (hfz : w.frozen? ⟨b, 0, none⟩ = false) :
    Calls Tryz.prog 175 #[.pointer (some ⟨b, 0, none⟩)] w λe w'=>e=.returned (.tuple #[])/\w'=w.setCell ⟨b, 0, none⟩ (.pointer (some ⟨b, 0, none⟩)):=by
  have hsz:(Tryz.prog.info? 167).map (·.size)=some 2:=by kernel_rfl
  have hlies:liesAt Tryz.prog Tryz.prog.depth 167 (2/Tryz.prog.cellsOf 167) 0 167 1=true:=by kernel_rfl
  obtain⟨j, hj, hjs⟩:=bf.1 hsz;have mixed:Tryz.prog.follows .mixedOrders=true:=by kernel_rfl
  have t72:=sbT;have t70:Tryz.prog.underlying 165=some (pf 167):=by kernel_rfl
  have t164:Tryz.prog.underlying 283=some TypeDesc.unsafePointer:=by kernel_rfl
  have a70:∀w, (isAgg 165).run Tryz.prog w=.ok false w:=λ_=>by kernel_rfl
  have a164:∀w, (isAgg 283).run Tryz.prog w=.ok false w:=λ_=>by kernel_rfl
  have z70:∀w, (Go.sizeOf 165).run Tryz.prog w=.ok 1 w:=λ_=>by kernel_rfl
  have u72:=run_underlying t72;have u70:=run_underlying t70;have u164:=run_underlying t164;go_enter Tryz.func175, Tryz.ntmps175;go_wp2;rw[Lib.run_to_unsafe w ⟨b, 0, none⟩ t70 t164 hj (by rw[hjs];decide) hsh (Nat.zero_lt_succ 1)];simp only[px];rw[rt];go_wp2;rw[run_callFunc_extern Tryz.func233 (by kernel_rfl) (by kernel_rfl) (by kernel_rfl) (e:=xt) (by kernel_rfl)];rw[Lib.run_noEscape];simp only[px];rw[rt];go_wp2;rw[Lib.run_from_unsafe w ⟨b, 0, none⟩ t164 t70 hj hsh hlies];simp only[px];rw[rt];go_wp2;go_end0;exact⟨rfl, rfl⟩
theorem sbT2 : Tryz.prog.underlying 167 = some (wc #[{ name := "addr", type := 165, offset := 0, embedded := false, tag := "", pkgPath := "strings", byteOffset := 0 }, { name := "buf", type := 38, offset := 1, embedded := false, tag := "", pkgPath := "strings", byteOffset := 8 }]) := by kernel_rfl
set_option maxHeartbeats 2000000 in
set_option maxRecDepth 100000 in
theorem bStrT (b : Nat) (p : Value) (A : Option Addr) (n cap : Nat) (q : Option Addr) (s : ByteArray) (w w2 : World) (hbk : w.heap[b]? = some (.cells #[p, .slice A n cap] 167 (0, 0)))
    (hSD:(Builtin.unsafeSliceData_ #[38] 240 #[.slice A n cap]).run Tryz.prog w.drew=.ok (.pointer q) w.drew)
    (hUS:(Builtin.unsafeString_ #[240, 3] 9 #[.pointer q, .int .i64 n]).run Tryz.prog w.drew=.ok (.string s) w2) :
    Calls Tryz.prog 114 #[.pointer (some ⟨b, 0, none⟩)] w λe w'=>e=.returned (.string s)/\w'=w2:=by
  have c1 : w.drew.cell? ⟨b, 1, none⟩ = some (.slice A n cap) := by have:w.drew.heap[b]? =some (.cells #[p, .slice A n cap] 167 (0, 0)):=hbk;rw[Lib.cell_of_heap this];rfl
  have mixed:Tryz.prog.follows .mixedOrders=true:=by kernel_rfl
  have t72:=sbT2;have t70:Tryz.prog.underlying 165=some (pf 167):=by kernel_rfl
  have t37:Tryz.prog.underlying 38=some (TypeDesc.slice 5):=by kernel_rfl
  have t127:Tryz.prog.underlying 240=some (pf 5):=by kernel_rfl
  have t3:Tryz.prog.underlying 3=some (yf .i64):=by kernel_rfl
  have t9:Tryz.prog.underlying 9=some TypeDesc.string:=by kernel_rfl
  have t5:Tryz.prog.underlying 5=some (yf .u8):=by kernel_rfl
  have a37:∀w, (isAgg 38).run Tryz.prog w=.ok false w:=λ_=>by kernel_rfl
  have u72:=run_underlying t72;have u70:=run_underlying t70;have u37:=run_underlying t37;have u127:=run_underlying t127;have u3:=run_underlying t3;have u9:=run_underlying t9;go_enter Tryz.func114, Tryz.ntmps114;go_wp2;go_region_o;all_goals (go_wp2;go_ret;exact⟨rfl, rfl⟩)
end Go.Pal
