/- Texts that the proofs of ExerciseBack, ExerciseJoins need. No condition. (Part 9 of 10.) -/
import Derived.Test.YtjkgmpljepnmiaaGreatDoorPEbx8
set_option linter.unusedSimpArgs false
set_option linter.unusedVariables false
set_option linter.defProp false
set_option maxRecDepth 100000
set_option maxHeartbeats 4000000
open Go.Proofs.Tryz
open List renaming length_append->jy,length_cons->jz,getElem?_eq_getElem->jB,length_nil->jD,getElem_cons_succ->jE,getElem_mem->jH,set_cons_zero->jI,take_succ_eq_append_getElem->jK,cons_append->jP,take_length->jQ,mem_cons->jR,append_assoc->jS,not_mem_nil->jU,flatten_cons->jY,getElem?_eq_none->j4,replicate->ke,getElem?_append_left->kj,nil_append->km,length_take->kn,getElem?_append_right->kp,drop_eq_getElem_cons->kv,take_append_drop->kA,append_nil->kB,isEmpty_iff->kF,all_eq_true->kG,mem_cons_of_mem->kH,take_succ_cons->kK,map_cons->kN,mem_singleton->kP
open Bool renaming and_eq_true->jA,false_eq_true->kx
open Go.Lib renaming hid->jC,indexByte->ky
open Or renaming inl->jF,inr->jG
open Option.some renaming injEq->jJ,inj->jW
open Nat renaming le_refl->jL,zero_le->jN,blt->jT,lt_or_ge->jX,le_of_ble_eq_true->kg,le_trans->kz,eq_of_beq_eq_true->kD,ble->kJ,beq->kL
open Go.Result renaming andThen->jM,andThen_ok->kE
open Go.Sem renaming run_bind->jO,run_pure->jZ
open Go renaming Calls->jV
open Go.Region renaming ready->j6,binds->kO
open Go.IntWalk renaming i64_in->j7
open Go.Value.slice renaming injEq->j8
open List.cons renaming injEq->j9
open Prod.mk renaming injEq->kf
open Go.DataW renaming trod->kh
open Array renaming getElem?_eq_none->ki
open Go.Value renaming slice->kq,ownBlock->kC
open Go.Addr renaming add->kI
namespace Bk
open Go Go.RowKit Go.Proofs
def Back_d (l:List EX) (a:oA) (c:Nat) (w:wD) (f:l.length<=9223372036854775807) (_:l.length<=c) (h : ∀e∈l,(e.name.length<=9223372036854775807/\e.g.wf)/\e.rng) (E:EXs Ga w l a) (F:TabsF w) (L:Errs2 w) :
 Calls prog 6 #[.slice a l.length c] w fun r w'=>r = .returned (.bool true)/\Ext w w':=fS l f (fun e M=>(h e M).1) Ga a c w E L F
end Bk
