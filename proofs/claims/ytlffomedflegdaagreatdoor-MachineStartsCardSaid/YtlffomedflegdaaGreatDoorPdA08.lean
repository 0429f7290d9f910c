/- Part A08 of the proof: Vg. -/
import Derived.Shelf.Vars
import Derived.Lay
import Derived.LaidOnce
import Derived.Test.YtlffomedflegdaaGreatDoorPdA07
set_option linter.all false
set_option maxHeartbeats 16000000
set_option maxRecDepth 100000
namespace Go.Proofs.YtlffomedflegdaaGreatDoor
open Go.Proofs.Tryz
open Go.RowKit
open Go.Value renaming int→cI,string→cS,slice→cY,bool→cE
open Go.IntKind renaming i64→cJ
open Option renaming some→cP,none→cX
open Bool renaming false→cA,true→cC
open Go.ChangeShapes Go.WideShapes Go.ChangeAt Go.Deep
def SB:∀(l:List (DataW Unit)),Rows.laid_lateen_lateenref05_words=.agg l->∀(r:Nat) (s:List UInt8),l[r]? =cP (.lit (.string s))->s.length<=10:=by
 intro l h r s hs;unfold Rows.laid_lateen_lateenref05_words at h;injection h with h
 have hc:(l.all λd:DataW Unit=>match d with
  |.lit (.string s)=>decide (s.length<=10)
  |_=>cC)=cC:=by rw[<-h];decide
 have:=List.all_eq_true.1 hc _ (List.mem_of_getElem? hs);simpa using this
def jc{W:World}(h:laidMetH prog Rows.machineStartsRow.laid W):Words W:=by
 rw[MakeChecks.laidMetH_plain _ _ _ (by kernel_rfl)]at h;obtain⟨ps,⟨_,_,_,_,_,_,_,_,_,_,⟨g,t,cs,fuel,p,q,hg,ht,hv,hd,_,_⟩,_⟩,_,_⟩:=h;obtain rfl:=Option.some.inj ((show prog.globalNamed "lateen/lateenref05.words" =cP 2 by kernel_rfl).symm.trans hg);obtain rfl:=Option.some.inj ((show(prog.globals[2]?).map (·.type)=cP 298 by kernel_rfl).symm.trans ht);obtain⟨xs,m,_,ex,_,hl,hel⟩:=DataW.trod_array underlying298 hd;have c5:prog.cellsOf 9=1:=by kernel_rfl
 intro r hr;have hE:=hel r hr;rw[c5,Nat.mul_one,List.getElem?_eq_getElem (by omega)]at hE;obtain⟨z,e1,e2,_⟩:=DataW.trod_string underlying9 hE;have hz:=SB _ (congrArg Prod.fst ex) r z.data.toList (by rw[List.getElem?_map,List.getElem?_eq_getElem (by omega),Option.map_some,e2]);refine⟨z,?_,by simpa using hz⟩;rw[World.var?_cell hg hv r];have h0:((cs.toList.drop r).take 1)[0]? =cP (cS z):=by rw[e1];rfl
 simpa using h0
variable (H : Type) (enc : TypeId × Value -> H) (W : World) (base : Nat) (args : Array Value) (ds gs : List (DataW H)) (before : List MemPlace)
def ADA(hval:∀(j:Nat) t v,f4.params[j]? =cP t->args[j]? =cP v->Value.okWide prog W .any base t v)(hW:DataW.Whole enc prog f4.params.toList Rows.machineStartsSpec.vars cA W args.toList ds gs before)(hk:(DataW.weightsEach prog (f4.params.toList++Rows.machineStartsSpec.plain.varTypes prog) (ds++gs)).all (· <=reachBytes)=cC) (hx:laidMetH prog Rows.machineStartsRow.laid W)(m:Int) (hm:W.cell? ⟨1,0,cX⟩=cP (cI cJ m)):Calls prog 4 args W λe W'=>e=.returned (cE cC)/\AA6 W W':=by
 have hwd:=jc hx;obtain⟨p,q,hA0,hV,rfl,_,_⟩:=hW;have hA:DataW.TrodAll enc prog W 0 (λ_=>cC) cC f4.params.toList args.toList ds p:=hA0;rw[params4]at hA hval hk;obtain⟨v0,vs0,d0,ds0,p0,q0,hargs,rfl,rfl,h0,r0⟩:=trodAll_cons hA;obtain⟨v1,vs1,d1,ds1,p1,q1,rfl,rfl,rfl,h1,r1⟩:=trodAll_cons r0;obtain⟨v2,vs2,d2,ds2,p2,q2,rfl,rfl,rfl,h2,r2⟩:=trodAll_cons r1;obtain⟨rfl,rfl,rfl⟩:=trodAll_nil r2;obtain rfl:args=#[v0,v1,v2]:=by cases args;simp_all
 obtain⟨c0,rfl,k0⟩:=oC underlying27 (hval 0 _ v0 rfl rfl) h0 (nX hk (j:=0) rfl rfl);obtain⟨c1,rfl,k1⟩:=oC underlying30 (hval 1 _ v1 rfl rfl) h1 (nX hk (j:=1) rfl rfl);obtain⟨other,rfl⟩:=okWide_string underlying9 (hval 2 _ v2 rfl rfl);obtain⟨p,u1,u2,u3,u4,hp,hr⟩:=AAX k0;obtain⟨qf,l1,fuel,l2,l3,g1,g2,g3,hq⟩:=ADX k1;have e1:=hp.e;have e2:=hq.e;rw[e1]at hp;rw[e2]at hq;rw[e1,e2];exact AFd ⟨hwd,⟨m,hm⟩,hp,hr,hq⟩ other
end Go.Proofs.YtlffomedflegdaaGreatDoor
