/- Part A09 of the proof: LawMachineStarts. -/
import Derived.Test.YtlffomedflegdaaGreatDoorTie
import Derived.Test.YtlffomedflegdaaGreatDoorCards
import Derived.Test.YtlffomedflegdaaGreatDoorPdC01
import Derived.Test.YtlffomedflegdaaGreatDoorPdA08
set_option linter.all false
set_option maxHeartbeats 16000000
set_option maxRecDepth 100000
namespace Go.Proofs.YtlffomedflegdaaGreatDoor
open Go.Proofs.Tryz
open Go.RowKit
open Go.Value renaming int→cI,string→cS,slice→cY,bool→cE
open Go.IntKind renaming i64→cJ
open Option renaming some→cP,none→cX
open Bool renaming false→cA,true→cC
namespace lawMachineStarts
open Go.ChangeShapes Go.WideShapes Go.ChangeAt
open Go.ChangeMaps (open_string shut_string)
def contract(H:Type)(enc:TypeId×Value->H)(W:World)(base:Nat)(args:Array Value)(ds gs:List (DataW H))(before:List MemPlace)(hval:∀(j:Nat) t v,f4.params[j]? =cP t->args[j]? =cP v->Value.okWide prog W .any base t v)(hW:DataW.Whole enc prog f4.params.toList Rows.machineStartsSpec.vars cA W args.toList ds gs before) (hk:(DataW.weightsEach prog (f4.params.toList++Rows.machineStartsSpec.plain.varTypes prog) (ds++gs)).all (· <=reachBytes)=cC) (hx:laidMetH prog Rows.machineStartsRow.laid W) (m:Int) (hm:W.cell? ⟨1,0,cX⟩=cP (cI cJ m)):Calls prog 4 args W λe W'=>∃v,e=.returned v/\Rows.machineStartsSpec.post enc prog f4 cA cC cA cA W args v W':=by
 have hWk:=hW;obtain⟨p,q,hA0,hV,rfl,_,_⟩:=hW;have hA:DataW.TrodAll enc prog W 0 (λ_=>cC) cC f4.params.toList args.toList ds p:=hA0;rw[params4]at hA;obtain⟨v0,vs0,d0,ds0,p0,q0,hargs,rfl,rfl,h0,r0⟩:=trodAll_cons hA;obtain⟨v1,vs1,d1,ds1,p1,q1,rfl,rfl,rfl,h1,r1⟩:=trodAll_cons r0;obtain⟨v2,vs2,d2,ds2,p2,q2,rfl,rfl,rfl,h2,r2⟩:=trodAll_cons r1;obtain⟨rfl,rfl,rfl⟩:=trodAll_nil r2;obtain rfl:args=#[v0,v1,v2]:=by cases args;simp_all
 have hgs:gs=[]:=(trodVars_none hV).1;refine law_calls (T:=4) Tryz.laidOut (by rw[params4];intro t ht;simp only[List.mem_cons,List.not_mem_nil,or_false]at ht;rcases ht with rfl|rfl|rfl<;>kernel_rfl) (by rw[params4];intro t ht;simp only[List.mem_cons,List.not_mem_nil,or_false]at ht;rcases ht with rfl|rfl|rfl<;>exact BK (by kernel_rfl)) rfl (by kernel_rfl) underlying4 hWk (by rw[hgs];rfl) ?_;exact ADA H enc W base _ _ gs _ hval hWk hk hx m hm
def lifted(os:Os)(started:os.Started)(H:Type)(enc:TypeId×Value->H):ReturnsInHanded {} checked os 4 .any (λw args=>(Rows.machineStartsSpec.pre enc prog f4 [] cA w args/\laidMetH prog Rows.machineStartsRow.laid w)/\sizedMet enc prog f4 (OpenSpec.ofChange Rows.machineStartsSpec) cA w args) (Rows.machineStartsSpec.post enc prog f4 cA cC cA cA):=by
 refine J5 (C:=checked) (X:=λw _=>laidMetH prog Rows.machineStartsRow.laid w) (λ_ _ _ hh h=>h.of_heap hh) Tryz.ownKnob started (by kernel_rfl) func4
  (ChangeSpec.witness_shaped (enc:=enc) (C:=checked) (os:=os) (X:=λw _=>laidMetH prog Rows.machineStartsRow.laid w) cA (World.laidAll prog os Rows.machineStartsRow.laid) #[.agg #[cE cA,cY cX 0 0,cY cX 0 0,cY cX 0 0,cY cX 0 0],.agg #[cI .u8 0,cY cX 0 0,cI cJ 0,cY cX 0 0,cY cX 0 0],cS .empty] 8 (World.laidAll_os _ _ _)
   (World.shaped_of_ZipB (by kernel_rfl) (by kernel_rfl)) (by kernel_rfl) (by kernel_rfl) (by kernel_rfl)
   (by rw[MakeChecks.laidMetH_plain _ _ _ (by kernel_rfl)];exact laidMet_laidAll _ (by kernel_rfl) (by kernel_rfl))) ?_
 intro W base args ds gs before hval hW hx hz hsh;obtain⟨m,hm⟩:=sV hsh;exact contract H enc W base args ds gs before hval hW hz hx m hm
theorem j0:(Rows.machineStartsRow.inPlace==prog.inPlace 4)=cC:=by kernel_rfl
theorem j1:(Rows.machineStartsRow.unfollowed==prog.unfollowed 4)=cC:=by kernel_rfl
theorem j2:(Rows.machineStartsRow.recurses==prog.recurses 4)=cC:=by kernel_rfl
theorem j3:(Rows.machineStartsRow.named==prog.varsNamed 4)=cC:=by kernel_rfl
theorem j4:(laidOutB prog)=cC:=by kernel_rfl
theorem j5:(mapsRowed prog)=cC:=by kernel_rfl
theorem j6:(prog.stops==[])=cC:=by kernel_rfl
theorem j7:(prog.stopKnobs==[])=cC:=by kernel_rfl
theorem j8:(prog.stopsHeard)=cC:=by kernel_rfl
theorem j9:(prog.mayEnter)=cC:=by kernel_rfl
theorem j10:(Rows.machineStartsRow.plainKeys==prog.plainKeys)=cC:=by kernel_rfl
theorem j11:(Rows.machineStartsRow.lifted==prog.liftsFinal)=cC:=by kernel_rfl
def facts:joinedFacts prog 4 f4 Rows.machineStartsSpec Rows.machineStartsRow=cC:=by
 unfold joinedFacts;rw[j0,j1,j2,j3,j4,j5,j6,j7,j8,j9,j10,j11];kernel_rfl
def holds:Rows.MachineStartsSaid:=
 OpenClaim.holds_of_wide 4 f4 rfl rfl rfl rfl rfl rfl rfl ⟨rfl,rfl,rfl,rfl,rfl⟩ rfl rfl rfl rfl rfl (by kernel_rfl) func4 facts
  (BK (by kernel_rfl)) (by unfold Func.isWrapper;first|(rw[if_pos (by decide+kernel)];kernel_rfl)|(rw[if_neg (by decide+kernel)];exact⟨rfl,rfl⟩))
  (λos started H enc _=>lifted os started H enc)
def proved:Rows.MachineStartsCardSaid:=
 Claim7.holds_tied_plain_at .later [] [.data,.data,.pinned] cC (cC, "c8b6cc4407bc1138b60c66af1eda1fd11cf706ba74662aa1eea4fca4a879b2a8") cC holds (λ_ h=>by cases h) (by kernel_rfl) (λ_ h=>by cases h) machineStarts_row_tie rfl ⟨rfl,rfl⟩ (by kernel_rfl) rfl
  (λf fn hf hfn=>by
   obtain rfl:f=4:=Option.some.inj ((show prog.funcNamed "lateen/lateenlaw16.MachineStarts" =cP 4 by kernel_rfl).symm.trans hf)|>.symm;obtain rfl:fn=f4:=(Option.some.inj (func4.symm.trans hfn)).symm
   exact⟨by kernel_rfl,λj t ht=>by
    rw[params4]at ht;have hm:t∈ [27,30,9]:=(by simpa using Array.mem_of_getElem? ht);have hall:([27,30,9].all λu=> !prog.wantsStandIn u)=cC:=by kernel_rfl
    exact(show prog.wantsStandIn t=cA by simpa using List.all_eq_true.1 hall t hm)⟩)
  (by kernel_rfl)
#print axioms proved
end lawMachineStarts
end Go.Proofs.YtlffomedflegdaaGreatDoor
#print axioms Go.Proofs.YtlffomedflegdaaGreatDoor.lawMachineStarts.proved
